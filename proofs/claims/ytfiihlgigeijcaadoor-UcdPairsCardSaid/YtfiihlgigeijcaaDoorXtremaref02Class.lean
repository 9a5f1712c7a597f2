-- Written by a program of this session (xprint.py), over the kit's print.
import Derived.Test.YtfiihlgigeijcaaDoorX0
import Derived.Test.YtfiihlgigeijcaaDoorXtremaref02in
namespace Go.Proofs.YtfiihlgigeijcaaDoor.X
open Go.RowKit Go.Proofs.YtfiihlgigeijcaaDoorW.PrintWords Go.Proofs.YtfiihlgigeijcaaDoorW.PrintLast Go.Proofs.YtfiihlgigeijcaaDoorW.PrintMore
attribute [local go_sem] max2_int min2_int max_two min_two max_three min_three max_four min_four   -- for this text's walks alone
set_option linter.unusedVariables false
set_option linter.unusedSimpArgs false

/-! ### tremaref02_Class: function 13 -/
mutual
def tremaref02_Class.j1 : Nat → Int → Bool → Option (Int)
 | 0, _, _ => none
 | k + 1, x0, x3 => if x3 = true then (some 230) else ((tremaref02_in.f x0 789 789).bind fun t177 => (if t177 = true then (tremaref02_Class.j2 k x0 t177) else ((tremaref02_in.f x0 794 794).bind fun t178 => (tremaref02_Class.j2 k x0 t178))))
def tremaref02_Class.j2 : Nat → Int → Bool → Option (Int)
 | 0, _, _ => none
 | k + 1, x0, x20 => if x20 = true then (some 232) else ((tremaref02_in.f x0 790 793).bind fun t179 => (if t179 = true then (tremaref02_Class.j4 k x0 t179) else ((tremaref02_in.f x0 796 800).bind fun t180 => (if t180 = true then (tremaref02_Class.j4 k x0 t180) else ((tremaref02_in.f x0 803 806).bind fun t181 => (if t181 = true then (tremaref02_Class.j4 k x0 t181) else ((tremaref02_in.f x0 809 819).bind fun t182 => (if t182 = true then (tremaref02_Class.j3 k x0 true) else ((tremaref02_in.f x0 825 828).bind fun t183 => (tremaref02_Class.j3 k x0 t183))))))))))
def tremaref02_Class.j4 : Nat → Int → Bool → Option (Int)
 | 0, _, _ => none
 | k + 1, x0, x25 => if x25 = true then (some 220) else ((tremaref02_in.f x0 795 795).bind fun t187 => (if t187 = true then (some 216) else ((tremaref02_in.f x0 801 802).bind fun t188 => (if t188 = true then (tremaref02_Class.j5 k x0 t188) else ((tremaref02_in.f x0 807 808).bind fun t189 => (tremaref02_Class.j5 k x0 t189))))))
def tremaref02_Class.j5 : Nat → Int → Bool → Option (Int)
 | 0, _, _ => none
 | k + 1, x0, x47 => if x47 = true then (some 202) else ((tremaref02_in.f x0 820 824).bind fun t190 => (if t190 = true then (some 1) else ((tremaref02_in.f x0 837 837).bind fun t191 => (if t191 = true then (some 240) else ((tremaref02_in.f x0 12441 12442).bind fun t192 => (if t192 = true then (some 8) else (some 0)))))))
def tremaref02_Class.j3 : Nat → Int → Bool → Option (Int)
 | 0, _, _ => none
 | k + 1, x0, x25 => if x25 = true then (tremaref02_Class.j4 k x0 x25) else ((tremaref02_in.f x0 839 841).bind fun t184 => (if t184 = true then (tremaref02_Class.j4 k x0 t184) else ((tremaref02_in.f x0 845 846).bind fun t185 => (if t185 = true then (tremaref02_Class.j4 k x0 t185) else ((tremaref02_in.f x0 851 854).bind fun t186 => (tremaref02_Class.j4 k x0 t186))))))
def tremaref02_Class.j0 : Nat → Int → Bool → Option (Int)
 | 0, _, _ => none
 | k + 1, x0, x3 => if x3 = true then (tremaref02_Class.j1 k x0 x3) else ((tremaref02_in.f x0 855 855).bind fun t175 => (if t175 = true then (tremaref02_Class.j1 k x0 t175) else ((tremaref02_in.f x0 8400 8401).bind fun t176 => (tremaref02_Class.j1 k x0 t176))))
end
def tremaref02_Class.f (k : Nat) (a0 : Int) : Option (Int) := (tremaref02_in.f a0 768 788).bind fun t170 => (if t170 = true then (tremaref02_Class.j1 k a0 t170) else ((tremaref02_in.f a0 829 836).bind fun t171 => (if t171 = true then (tremaref02_Class.j1 k a0 t171) else ((tremaref02_in.f a0 838 838).bind fun t172 => (if t172 = true then (tremaref02_Class.j1 k a0 t172) else ((tremaref02_in.f a0 842 844).bind fun t173 => (if t173 = true then (tremaref02_Class.j0 k a0 true) else ((tremaref02_in.f a0 848 850).bind fun t174 => (tremaref02_Class.j0 k a0 t174)))))))))
theorem tremaref02_Class.mono_l : ∀ k, (∀ y0 y1, LeO (tremaref02_Class.j1 k y0 y1) (tremaref02_Class.j1 (k + 1) y0 y1)) ∧ (∀ y0 y1, LeO (tremaref02_Class.j2 k y0 y1) (tremaref02_Class.j2 (k + 1) y0 y1)) ∧ (∀ y0 y1, LeO (tremaref02_Class.j4 k y0 y1) (tremaref02_Class.j4 (k + 1) y0 y1)) ∧ (∀ y0 y1, LeO (tremaref02_Class.j5 k y0 y1) (tremaref02_Class.j5 (k + 1) y0 y1)) ∧ (∀ y0 y1, LeO (tremaref02_Class.j3 k y0 y1) (tremaref02_Class.j3 (k + 1) y0 y1)) ∧ (∀ y0 y1, LeO (tremaref02_Class.j0 k y0 y1) (tremaref02_Class.j0 (k + 1) y0 y1))
 | 0 => ⟨fun _ _ r h => by simp [tremaref02_Class.j1] at h, fun _ _ r h => by simp [tremaref02_Class.j2] at h, fun _ _ r h => by simp [tremaref02_Class.j4] at h, fun _ _ r h => by simp [tremaref02_Class.j5] at h, fun _ _ r h => by simp [tremaref02_Class.j3] at h, fun _ _ r h => by simp [tremaref02_Class.j0] at h⟩
 | k + 1 => by
  obtain ⟨ih0, ih1, ih2, ih3, ih4, ih5⟩ := tremaref02_Class.mono_l k
  refine ⟨?_, ?_, ?_, ?_, ?_, ?_⟩
  ·intro y0 y1
   unfold tremaref02_Class.j1
   repeat' first
   | (with_reducible exact ih0 _ _)
   | (with_reducible exact ih1 _ _)
   | (with_reducible exact ih2 _ _)
   | (with_reducible exact ih3 _ _)
   | (with_reducible exact ih4 _ _)
   | (with_reducible exact ih5 _ _)
   | (with_reducible exact LeO.refl _)
   | (with_reducible exact LeO.none _)
   | (with_reducible refine LeO.ite ?_ ?_)
   | (with_reducible refine LeO.bind ?_ (fun _ => ?_))
   | exact ih0 _ _
   | exact ih1 _ _
   | exact ih2 _ _
   | exact ih3 _ _
   | exact ih4 _ _
   | exact ih5 _ _
   | exact LeO.none _
   | refine LeO.ite ?_ ?_
   | refine LeO.bind ?_ (fun _ => ?_)
  ·intro y0 y1
   unfold tremaref02_Class.j2
   repeat' first
   | (with_reducible exact ih0 _ _)
   | (with_reducible exact ih1 _ _)
   | (with_reducible exact ih2 _ _)
   | (with_reducible exact ih3 _ _)
   | (with_reducible exact ih4 _ _)
   | (with_reducible exact ih5 _ _)
   | (with_reducible exact LeO.refl _)
   | (with_reducible exact LeO.none _)
   | (with_reducible refine LeO.ite ?_ ?_)
   | (with_reducible refine LeO.bind ?_ (fun _ => ?_))
   | exact ih0 _ _
   | exact ih1 _ _
   | exact ih2 _ _
   | exact ih3 _ _
   | exact ih4 _ _
   | exact ih5 _ _
   | exact LeO.none _
   | refine LeO.ite ?_ ?_
   | refine LeO.bind ?_ (fun _ => ?_)
  ·intro y0 y1
   unfold tremaref02_Class.j4
   repeat' first
   | (with_reducible exact ih0 _ _)
   | (with_reducible exact ih1 _ _)
   | (with_reducible exact ih2 _ _)
   | (with_reducible exact ih3 _ _)
   | (with_reducible exact ih4 _ _)
   | (with_reducible exact ih5 _ _)
   | (with_reducible exact LeO.refl _)
   | (with_reducible exact LeO.none _)
   | (with_reducible refine LeO.ite ?_ ?_)
   | (with_reducible refine LeO.bind ?_ (fun _ => ?_))
   | exact ih0 _ _
   | exact ih1 _ _
   | exact ih2 _ _
   | exact ih3 _ _
   | exact ih4 _ _
   | exact ih5 _ _
   | exact LeO.none _
   | refine LeO.ite ?_ ?_
   | refine LeO.bind ?_ (fun _ => ?_)
  ·intro y0 y1
   unfold tremaref02_Class.j5
   repeat' first
   | (with_reducible exact ih0 _ _)
   | (with_reducible exact ih1 _ _)
   | (with_reducible exact ih2 _ _)
   | (with_reducible exact ih3 _ _)
   | (with_reducible exact ih4 _ _)
   | (with_reducible exact ih5 _ _)
   | (with_reducible exact LeO.refl _)
   | (with_reducible exact LeO.none _)
   | (with_reducible refine LeO.ite ?_ ?_)
   | (with_reducible refine LeO.bind ?_ (fun _ => ?_))
   | exact ih0 _ _
   | exact ih1 _ _
   | exact ih2 _ _
   | exact ih3 _ _
   | exact ih4 _ _
   | exact ih5 _ _
   | exact LeO.none _
   | refine LeO.ite ?_ ?_
   | refine LeO.bind ?_ (fun _ => ?_)
  ·intro y0 y1
   unfold tremaref02_Class.j3
   repeat' first
   | (with_reducible exact ih0 _ _)
   | (with_reducible exact ih1 _ _)
   | (with_reducible exact ih2 _ _)
   | (with_reducible exact ih3 _ _)
   | (with_reducible exact ih4 _ _)
   | (with_reducible exact ih5 _ _)
   | (with_reducible exact LeO.refl _)
   | (with_reducible exact LeO.none _)
   | (with_reducible refine LeO.ite ?_ ?_)
   | (with_reducible refine LeO.bind ?_ (fun _ => ?_))
   | exact ih0 _ _
   | exact ih1 _ _
   | exact ih2 _ _
   | exact ih3 _ _
   | exact ih4 _ _
   | exact ih5 _ _
   | exact LeO.none _
   | refine LeO.ite ?_ ?_
   | refine LeO.bind ?_ (fun _ => ?_)
  ·intro y0 y1
   unfold tremaref02_Class.j0
   repeat' first
   | (with_reducible exact ih0 _ _)
   | (with_reducible exact ih1 _ _)
   | (with_reducible exact ih2 _ _)
   | (with_reducible exact ih3 _ _)
   | (with_reducible exact ih4 _ _)
   | (with_reducible exact ih5 _ _)
   | (with_reducible exact LeO.refl _)
   | (with_reducible exact LeO.none _)
   | (with_reducible refine LeO.ite ?_ ?_)
   | (with_reducible refine LeO.bind ?_ (fun _ => ?_))
   | exact ih0 _ _
   | exact ih1 _ _
   | exact ih2 _ _
   | exact ih3 _ _
   | exact ih4 _ _
   | exact ih5 _ _
   | exact LeO.none _
   | refine LeO.ite ?_ ?_
   | refine LeO.bind ?_ (fun _ => ?_)
theorem tremaref02_Class.mono : ∀ a0 k, LeO (tremaref02_Class.f k a0) (tremaref02_Class.f (k + 1) a0) := by
 intro a0 k
 obtain ⟨ih0, ih1, ih2, ih3, ih4, ih5⟩ := tremaref02_Class.mono_l k
 unfold tremaref02_Class.f
 repeat' first
   | (with_reducible exact ih0 _ _)
   | (with_reducible exact ih1 _ _)
   | (with_reducible exact ih2 _ _)
   | (with_reducible exact ih3 _ _)
   | (with_reducible exact ih4 _ _)
   | (with_reducible exact ih5 _ _)
   | (with_reducible exact LeO.refl _)
   | (with_reducible exact LeO.none _)
   | (with_reducible refine LeO.ite ?_ ?_)
   | (with_reducible refine LeO.bind ?_ (fun _ => ?_))
   | exact ih0 _ _
   | exact ih1 _ _
   | exact ih2 _ _
   | exact ih3 _ _
   | exact ih4 _ _
   | exact ih5 _ _
   | exact LeO.none _
   | refine LeO.ite ?_ ?_
   | refine LeO.bind ?_ (fun _ => ?_)
set_option maxHeartbeats 8000000 in
set_option maxRecDepth 100000 in
theorem tremaref02_Class.calls (k : Nat) (a0 : Int) (r : Int) (w : World) (h : tremaref02_Class.f k a0 = some r) :
  Calls Tryd.prog 13 #[.int .i32 a0] w fun e w' => e = .returned (.int .i64 r) ∧ Drawn0 w w' := by
 have H : ((tremaref02_in.f a0 768 788).bind fun t170 => (if t170 = true then (tremaref02_Class.j1 k a0 t170) else ((tremaref02_in.f a0 829 836).bind fun t171 => (if t171 = true then (tremaref02_Class.j1 k a0 t171) else ((tremaref02_in.f a0 838 838).bind fun t172 => (if t172 = true then (tremaref02_Class.j1 k a0 t172) else ((tremaref02_in.f a0 842 844).bind fun t173 => (if t173 = true then (tremaref02_Class.j0 k a0 true) else ((tremaref02_in.f a0 848 850).bind fun t174 => (tremaref02_Class.j0 k a0 t174)))))))))) = some r := h
 clear h
 replace H := Option.bind_eq_some_iff.mp H
 obtain ⟨t170, A20, H⟩ := H
 replace H : (if t170 = true then (tremaref02_Class.j1 k a0 t170) else ((tremaref02_in.f a0 829 836).bind fun t171 => (if t171 = true then (tremaref02_Class.j1 k a0 t171) else ((tremaref02_in.f a0 838 838).bind fun t172 => (if t172 = true then (tremaref02_Class.j1 k a0 t172) else ((tremaref02_in.f a0 842 844).bind fun t173 => (if t173 = true then (tremaref02_Class.j0 k a0 true) else ((tremaref02_in.f a0 848 850).bind fun t174 => (tremaref02_Class.j0 k a0 t174))))))))) = some r := H
 have A2 := Aside0.mk A20
 clear A20
 have HC3 := Aside0.mk H
 clear H
 go_enter Tryd.func13, Tryd.ntmps13
 go_upto_if 3 with (first | ((with_reducible refine gate_callee (f := 31) rfl ?_); refine goesL_ (some 5) rfl rfl Tryd.func31 (by kernel_rfl) rfl #[.int .i32 a0, .int .i32 768, .int .i32 788] rfl (by (try simp only [List.map_toArray, List.map_cons, List.map_nil]); first | done | rfl | (simp only [List.length_drop, List.length_take]; rfl)) ?_; (with_reducible refine (tremaref02_in.calls a0 768 788 t170 _ A2.out).mono ?_); rintro e w' ⟨rfl, ⟨nd, rfl⟩⟩; refine ⟨_, rfl, ?_⟩))
 (try simp only [Act.put, List.setIfInBounds_toArray, List.set_cons_zero, List.set_cons_succ])
 go_cut [3] (fun v3 wc => ∃ (kq : Nat) (x3_2 : Bool), v3 = .bool x3_2 ∧ Aside0 (tremaref02_Class.j1 kq a0 x3_2 = some r) ∧ Aside0 (kq ≤ k) ∧ Drawn0 w wc)
 case first =>
  have H := HC3.out
  clear HC3
  by_cases c4 : t170 = true
  ·subst c4
   have H1 : (tremaref02_Class.j1 k a0 true) = some r := by rw [if_pos rfl] at H; exact H
   clear H
   have H := H1
   clear H1
   have H' := Aside0.mk H
   clear H
   go_wp2
   go_meet
   case rel => exact ⟨_, (true), (by first | rfl | (simp; done) | (simp [*]; done)), H', ⟨by first | omega | exact Nat.le_refl _⟩, by repeat (first | exact Drawn0.refl _ | apply Drawn0.step)⟩
  ·replace c4 := Bool.eq_false_iff.mpr c4
   subst c4
   have H1 : ((tremaref02_in.f a0 829 836).bind fun t171 => (if t171 = true then (tremaref02_Class.j1 k a0 t171) else ((tremaref02_in.f a0 838 838).bind fun t172 => (if t172 = true then (tremaref02_Class.j1 k a0 t172) else ((tremaref02_in.f a0 842 844).bind fun t173 => (if t173 = true then (tremaref02_Class.j0 k a0 true) else ((tremaref02_in.f a0 848 850).bind fun t174 => (tremaref02_Class.j0 k a0 t174)))))))) = some r := by rw [if_neg (show ¬ (false = true) by decide)] at H; exact H
   clear H
   have H := H1
   clear H1
   replace H := Option.bind_eq_some_iff.mp H
   obtain ⟨t171, A50, H⟩ := H
   replace H : (if t171 = true then (tremaref02_Class.j1 k a0 t171) else ((tremaref02_in.f a0 838 838).bind fun t172 => (if t172 = true then (tremaref02_Class.j1 k a0 t172) else ((tremaref02_in.f a0 842 844).bind fun t173 => (if t173 = true then (tremaref02_Class.j0 k a0 true) else ((tremaref02_in.f a0 848 850).bind fun t174 => (tremaref02_Class.j0 k a0 t174))))))) = some r := H
   have A5 := Aside0.mk A50
   clear A50
   by_cases c6 : t171 = true
   ·subst c6
    have H1 : (tremaref02_Class.j1 k a0 true) = some r := by rw [if_pos rfl] at H; exact H
    clear H
    have H := H1
    clear H1
    have H' := Aside0.mk H
    clear H
    go_wp2_with (first | ((with_reducible refine gate_callee (f := 31) rfl ?_); refine goesL_ (some 7) rfl rfl Tryd.func31 (by kernel_rfl) rfl #[.int .i32 a0, .int .i32 829, .int .i32 836] rfl (by (try simp only [List.map_toArray, List.map_cons, List.map_nil]); first | done | rfl | (simp only [List.length_drop, List.length_take]; rfl)) ?_; (with_reducible refine (tremaref02_in.calls a0 829 836 true _ A5.out).mono ?_); rintro e w' ⟨rfl, ⟨nd, rfl⟩⟩; refine ⟨_, rfl, ?_⟩))
    go_meet
    case rel => exact ⟨_, (true), (by first | rfl | (simp; done) | (simp [*]; done)), H', ⟨by first | omega | exact Nat.le_refl _⟩, by repeat (first | exact Drawn0.refl _ | apply Drawn0.step)⟩
   ·replace c6 := Bool.eq_false_iff.mpr c6
    subst c6
    have H1 : ((tremaref02_in.f a0 838 838).bind fun t172 => (if t172 = true then (tremaref02_Class.j1 k a0 t172) else ((tremaref02_in.f a0 842 844).bind fun t173 => (if t173 = true then (tremaref02_Class.j0 k a0 true) else ((tremaref02_in.f a0 848 850).bind fun t174 => (tremaref02_Class.j0 k a0 t174)))))) = some r := by rw [if_neg (show ¬ (false = true) by decide)] at H; exact H
    clear H
    have H := H1
    clear H1
    replace H := Option.bind_eq_some_iff.mp H
    obtain ⟨t172, A70, H⟩ := H
    replace H : (if t172 = true then (tremaref02_Class.j1 k a0 t172) else ((tremaref02_in.f a0 842 844).bind fun t173 => (if t173 = true then (tremaref02_Class.j0 k a0 true) else ((tremaref02_in.f a0 848 850).bind fun t174 => (tremaref02_Class.j0 k a0 t174))))) = some r := H
    have A7 := Aside0.mk A70
    clear A70
    by_cases c8 : t172 = true
    ·subst c8
     have H1 : (tremaref02_Class.j1 k a0 true) = some r := by rw [if_pos rfl] at H; exact H
     clear H
     have H := H1
     clear H1
     have H' := Aside0.mk H
     clear H
     go_wp2_with (first | ((with_reducible refine gate_callee (f := 31) rfl ?_); refine goesL_ (some 7) rfl rfl Tryd.func31 (by kernel_rfl) rfl #[.int .i32 a0, .int .i32 829, .int .i32 836] rfl (by (try simp only [List.map_toArray, List.map_cons, List.map_nil]); first | done | rfl | (simp only [List.length_drop, List.length_take]; rfl)) ?_; (with_reducible refine (tremaref02_in.calls a0 829 836 false _ A5.out).mono ?_); rintro e w' ⟨rfl, ⟨nd, rfl⟩⟩; refine ⟨_, rfl, ?_⟩) | ((with_reducible refine gate_callee (f := 31) rfl ?_); refine goesL_ (some 9) rfl rfl Tryd.func31 (by kernel_rfl) rfl #[.int .i32 a0, .int .i32 838, .int .i32 838] rfl (by (try simp only [List.map_toArray, List.map_cons, List.map_nil]); first | done | rfl | (simp only [List.length_drop, List.length_take]; rfl)) ?_; (with_reducible refine (tremaref02_in.calls a0 838 838 true _ A7.out).mono ?_); rintro e w' ⟨rfl, ⟨nd, rfl⟩⟩; refine ⟨_, rfl, ?_⟩))
     go_meet
     case rel => exact ⟨_, (true), (by first | rfl | (simp; done) | (simp [*]; done)), H', ⟨by first | omega | exact Nat.le_refl _⟩, by repeat (first | exact Drawn0.refl _ | apply Drawn0.step)⟩
    ·replace c8 := Bool.eq_false_iff.mpr c8
     subst c8
     have H1 : ((tremaref02_in.f a0 842 844).bind fun t173 => (if t173 = true then (tremaref02_Class.j0 k a0 true) else ((tremaref02_in.f a0 848 850).bind fun t174 => (tremaref02_Class.j0 k a0 t174)))) = some r := by rw [if_neg (show ¬ (false = true) by decide)] at H; exact H
     clear H
     have H := H1
     clear H1
     have HC9 := Aside0.mk H
     clear H
     go_upto_region 4 with (first | ((with_reducible refine gate_callee (f := 31) rfl ?_); refine goesL_ (some 7) rfl rfl Tryd.func31 (by kernel_rfl) rfl #[.int .i32 a0, .int .i32 829, .int .i32 836] rfl (by (try simp only [List.map_toArray, List.map_cons, List.map_nil]); first | done | rfl | (simp only [List.length_drop, List.length_take]; rfl)) ?_; (with_reducible refine (tremaref02_in.calls a0 829 836 false _ A5.out).mono ?_); rintro e w' ⟨rfl, ⟨nd, rfl⟩⟩; refine ⟨_, rfl, ?_⟩) | ((with_reducible refine gate_callee (f := 31) rfl ?_); refine goesL_ (some 9) rfl rfl Tryd.func31 (by kernel_rfl) rfl #[.int .i32 a0, .int .i32 838, .int .i32 838] rfl (by (try simp only [List.map_toArray, List.map_cons, List.map_nil]); first | done | rfl | (simp only [List.length_drop, List.length_take]; rfl)) ?_; (with_reducible refine (tremaref02_in.calls a0 838 838 false _ A7.out).mono ?_); rintro e w' ⟨rfl, ⟨nd, rfl⟩⟩; refine ⟨_, rfl, ?_⟩))
     (try simp only [Act.put, List.setIfInBounds_toArray, List.set_cons_zero, List.set_cons_succ])
     go_cut [3] (fun v3 wc => ∃ (kq : Nat) (x3_8 : Bool), v3 = .bool x3_8 ∧ Aside0 (tremaref02_Class.j0 kq a0 x3_8 = some r) ∧ Aside0 (kq ≤ k) ∧ Drawn0 w wc)
     case first =>
      have H := HC9.out
      clear HC9
      replace H := Option.bind_eq_some_iff.mp H
      obtain ⟨t173, A100, H⟩ := H
      replace H : (if t173 = true then (tremaref02_Class.j0 k a0 true) else ((tremaref02_in.f a0 848 850).bind fun t174 => (tremaref02_Class.j0 k a0 t174))) = some r := H
      have A10 := Aside0.mk A100
      clear A100
      by_cases c11 : t173 = true
      ·subst c11
       have H1 : (tremaref02_Class.j0 k a0 true) = some r := by rw [if_pos rfl] at H; exact H
       clear H
       have H := H1
       clear H1
       have H' := Aside0.mk H
       clear H
       go_wp2_with (first | ((with_reducible refine gate_callee (f := 31) rfl ?_); refine goesL_ (some 11) rfl rfl Tryd.func31 (by kernel_rfl) rfl #[.int .i32 a0, .int .i32 842, .int .i32 844] rfl (by (try simp only [List.map_toArray, List.map_cons, List.map_nil]); first | done | rfl | (simp only [List.length_drop, List.length_take]; rfl)) ?_; (with_reducible refine (tremaref02_in.calls a0 842 844 true _ A10.out).mono ?_); rintro e w' ⟨rfl, ⟨nd, rfl⟩⟩; refine ⟨_, rfl, ?_⟩))
       go_meet
       case rel => exact ⟨_, (true), (by first | rfl | (simp; done) | (simp [*]; done)), H', ⟨by first | omega | exact Nat.le_refl _⟩, by repeat (first | exact Drawn0.refl _ | apply Drawn0.step)⟩
      ·replace c11 := Bool.eq_false_iff.mpr c11
       subst c11
       have H1 : ((tremaref02_in.f a0 848 850).bind fun t174 => (tremaref02_Class.j0 k a0 t174)) = some r := by rw [if_neg (show ¬ (false = true) by decide)] at H; exact H
       clear H
       have H := H1
       clear H1
       replace H := Option.bind_eq_some_iff.mp H
       obtain ⟨t174, A120, H⟩ := H
       replace H : (tremaref02_Class.j0 k a0 t174) = some r := H
       have A12 := Aside0.mk A120
       clear A120
       have H' := Aside0.mk H
       clear H
       go_wp2_with (first | ((with_reducible refine gate_callee (f := 31) rfl ?_); refine goesL_ (some 11) rfl rfl Tryd.func31 (by kernel_rfl) rfl #[.int .i32 a0, .int .i32 842, .int .i32 844] rfl (by (try simp only [List.map_toArray, List.map_cons, List.map_nil]); first | done | rfl | (simp only [List.length_drop, List.length_take]; rfl)) ?_; (with_reducible refine (tremaref02_in.calls a0 842 844 false _ A10.out).mono ?_); rintro e w' ⟨rfl, ⟨nd, rfl⟩⟩; refine ⟨_, rfl, ?_⟩) | (go_at_call 31; (with_reducible refine (tremaref02_in.calls a0 848 850 t174 _ A12.out).mono ?_); rintro e w' ⟨rfl, ⟨nd, rfl⟩⟩))
       go_meet
       case rel => exact ⟨_, (t174), (by first | rfl | (simp; done) | (simp [*]; done)), H', ⟨by first | omega | exact Nat.le_refl _⟩, by repeat (first | exact Drawn0.refl _ | apply Drawn0.step)⟩
     case rest =>
      clear HC9
      try clear c1
      try clear p2
      try clear c3
      try clear c4
      try clear c6
      try clear c8
      try clear c11
      obtain ⟨kq, x3_8, rfl, HA, HJ8, ⟨mc8, rfl⟩⟩ := hcut
      cases kq with
      | zero => exact absurd HA.out (by simp [tremaref02_Class.j0])
      | succ kj8 =>
       have H := HA.out
       clear HA
       simp only [tremaref02_Class.j0] at H
       by_cases c13 : x3_8 = true
       ·subst c13
        have H1 : (tremaref02_Class.j1 kj8 a0 true) = some r := by rw [if_pos rfl] at H; exact H
        clear H
        have H := H1
        clear H1
        have H' := Aside0.mk H
        clear H
        go_wp2
        go_meet
        case rel => exact ⟨_, (true), (by first | rfl | (simp; done) | (simp [*]; done)), H', ⟨by have := HJ8.out; first | omega | exact Nat.le_refl _⟩, by repeat (first | exact Drawn0.refl _ | apply Drawn0.step)⟩
       ·replace c13 := Bool.eq_false_iff.mpr c13
        subst c13
        have H1 : ((tremaref02_in.f a0 855 855).bind fun t175 => (if t175 = true then (tremaref02_Class.j1 kj8 a0 t175) else ((tremaref02_in.f a0 8400 8401).bind fun t176 => (tremaref02_Class.j1 kj8 a0 t176)))) = some r := by rw [if_neg (show ¬ (false = true) by decide)] at H; exact H
        clear H
        have H := H1
        clear H1
        replace H := Option.bind_eq_some_iff.mp H
        obtain ⟨t175, A140, H⟩ := H
        replace H : (if t175 = true then (tremaref02_Class.j1 kj8 a0 t175) else ((tremaref02_in.f a0 8400 8401).bind fun t176 => (tremaref02_Class.j1 kj8 a0 t176))) = some r := H
        have A14 := Aside0.mk A140
        clear A140
        by_cases c15 : t175 = true
        ·subst c15
         have H1 : (tremaref02_Class.j1 kj8 a0 true) = some r := by rw [if_pos rfl] at H; exact H
         clear H
         have H := H1
         clear H1
         have H' := Aside0.mk H
         clear H
         go_wp2_with (first | ((with_reducible refine gate_callee (f := 31) rfl ?_); refine goesL_ (some 17) rfl rfl Tryd.func31 (by kernel_rfl) rfl #[.int .i32 a0, .int .i32 855, .int .i32 855] rfl (by (try simp only [List.map_toArray, List.map_cons, List.map_nil]); first | done | rfl | (simp only [List.length_drop, List.length_take]; rfl)) ?_; (with_reducible refine (tremaref02_in.calls a0 855 855 true _ A14.out).mono ?_); rintro e w' ⟨rfl, ⟨nd, rfl⟩⟩; refine ⟨_, rfl, ?_⟩))
         go_meet
         case rel => exact ⟨_, (true), (by first | rfl | (simp; done) | (simp [*]; done)), H', ⟨by have := HJ8.out; first | omega | exact Nat.le_refl _⟩, by repeat (first | exact Drawn0.refl _ | apply Drawn0.step)⟩
        ·replace c15 := Bool.eq_false_iff.mpr c15
         subst c15
         have H1 : ((tremaref02_in.f a0 8400 8401).bind fun t176 => (tremaref02_Class.j1 kj8 a0 t176)) = some r := by rw [if_neg (show ¬ (false = true) by decide)] at H; exact H
         clear H
         have H := H1
         clear H1
         replace H := Option.bind_eq_some_iff.mp H
         obtain ⟨t176, A160, H⟩ := H
         replace H : (tremaref02_Class.j1 kj8 a0 t176) = some r := H
         have A16 := Aside0.mk A160
         clear A160
         have H' := Aside0.mk H
         clear H
         go_wp2_with (first | ((with_reducible refine gate_callee (f := 31) rfl ?_); refine goesL_ (some 17) rfl rfl Tryd.func31 (by kernel_rfl) rfl #[.int .i32 a0, .int .i32 855, .int .i32 855] rfl (by (try simp only [List.map_toArray, List.map_cons, List.map_nil]); first | done | rfl | (simp only [List.length_drop, List.length_take]; rfl)) ?_; (with_reducible refine (tremaref02_in.calls a0 855 855 false _ A14.out).mono ?_); rintro e w' ⟨rfl, ⟨nd, rfl⟩⟩; refine ⟨_, rfl, ?_⟩) | ((with_reducible refine gate_callee (f := 31) rfl ?_); refine goesL_ (some 19) rfl rfl Tryd.func31 (by kernel_rfl) rfl #[.int .i32 a0, .int .i32 8400, .int .i32 8401] rfl (by (try simp only [List.map_toArray, List.map_cons, List.map_nil]); first | done | rfl | (simp only [List.length_drop, List.length_take]; rfl)) ?_; (with_reducible refine (tremaref02_in.calls a0 8400 8401 t176 _ A16.out).mono ?_); rintro e w' ⟨rfl, ⟨nd, rfl⟩⟩; refine ⟨_, rfl, ?_⟩))
         go_meet
         case rel => exact ⟨_, (t176), (by first | rfl | (simp; done) | (simp [*]; done)), H', ⟨by have := HJ8.out; first | omega | exact Nat.le_refl _⟩, by repeat (first | exact Drawn0.refl _ | apply Drawn0.step)⟩
 case rest =>
  clear HC3
  try clear c1
  try clear p2
  try clear c3
  try clear c4
  try clear c6
  try clear c8
  try clear c11
  try clear c13
  try clear c15
  try clear p2
  obtain ⟨kq, x3_2, rfl, HA, HJ2, ⟨mc2, rfl⟩⟩ := hcut
  cases kq with
  | zero => exact absurd HA.out (by simp [tremaref02_Class.j1])
  | succ kj2 =>
   have H := HA.out
   clear HA
   simp only [tremaref02_Class.j1] at H
   by_cases c17 : x3_2 = true
   ·subst c17
    have H1 : (some 230) = some r := by rw [if_pos rfl] at H; exact H
    clear H
    have H := H1
    clear H1
    obtain rfl := Option.some.inj H
    go_wp2
    go_ret
    exact ⟨by first | rfl | (simp; done) | (simp [*]; done), by repeat (first | exact Drawn0.refl _ | apply Drawn0.step)⟩
   ·replace c17 := Bool.eq_false_iff.mpr c17
    subst c17
    have H1 : ((tremaref02_in.f a0 789 789).bind fun t177 => (if t177 = true then (tremaref02_Class.j2 kj2 a0 t177) else ((tremaref02_in.f a0 794 794).bind fun t178 => (tremaref02_Class.j2 kj2 a0 t178)))) = some r := by rw [if_neg (show ¬ (false = true) by decide)] at H; exact H
    clear H
    have H := H1
    clear H1
    replace H := Option.bind_eq_some_iff.mp H
    obtain ⟨t177, A180, H⟩ := H
    replace H : (if t177 = true then (tremaref02_Class.j2 kj2 a0 t177) else ((tremaref02_in.f a0 794 794).bind fun t178 => (tremaref02_Class.j2 kj2 a0 t178))) = some r := H
    have A18 := Aside0.mk A180
    clear A180
    have HC19 := Aside0.mk H
    clear H
    go_upto_if 20 with (first | ((with_reducible refine gate_callee (f := 31) rfl ?_); refine goesL_ (some 22) rfl rfl Tryd.func31 (by kernel_rfl) rfl #[.int .i32 a0, .int .i32 789, .int .i32 789] rfl (by (try simp only [List.map_toArray, List.map_cons, List.map_nil]); first | done | rfl | (simp only [List.length_drop, List.length_take]; rfl)) ?_; (with_reducible refine (tremaref02_in.calls a0 789 789 t177 _ A18.out).mono ?_); rintro e w' ⟨rfl, ⟨nd, rfl⟩⟩; refine ⟨_, rfl, ?_⟩))
    (try simp only [Act.put, List.setIfInBounds_toArray, List.set_cons_zero, List.set_cons_succ])
    go_cut [20] (fun v20 wc => ∃ (kq : Nat) (x20_18 : Bool), v20 = .bool x20_18 ∧ Aside0 (tremaref02_Class.j2 kq a0 x20_18 = some r) ∧ Aside0 (kq ≤ kj2) ∧ Drawn0 w wc)
    case first =>
     have H := HC19.out
     clear HC19
     by_cases c20 : t177 = true
     ·subst c20
      have H1 : (tremaref02_Class.j2 kj2 a0 true) = some r := by rw [if_pos rfl] at H; exact H
      clear H
      have H := H1
      clear H1
      have H' := Aside0.mk H
      clear H
      go_wp2
      go_meet
      case rel => exact ⟨_, (true), (by first | rfl | (simp; done) | (simp [*]; done)), H', ⟨by have := HJ2.out; first | omega | exact Nat.le_refl _⟩, by repeat (first | exact Drawn0.refl _ | apply Drawn0.step)⟩
     ·replace c20 := Bool.eq_false_iff.mpr c20
      subst c20
      have H1 : ((tremaref02_in.f a0 794 794).bind fun t178 => (tremaref02_Class.j2 kj2 a0 t178)) = some r := by rw [if_neg (show ¬ (false = true) by decide)] at H; exact H
      clear H
      have H := H1
      clear H1
      replace H := Option.bind_eq_some_iff.mp H
      obtain ⟨t178, A210, H⟩ := H
      replace H : (tremaref02_Class.j2 kj2 a0 t178) = some r := H
      have A21 := Aside0.mk A210
      clear A210
      have H' := Aside0.mk H
      clear H
      go_wp2_with (first | ((with_reducible refine gate_callee (f := 31) rfl ?_); refine goesL_ (some 24) rfl rfl Tryd.func31 (by kernel_rfl) rfl #[.int .i32 a0, .int .i32 794, .int .i32 794] rfl (by (try simp only [List.map_toArray, List.map_cons, List.map_nil]); first | done | rfl | (simp only [List.length_drop, List.length_take]; rfl)) ?_; (with_reducible refine (tremaref02_in.calls a0 794 794 t178 _ A21.out).mono ?_); rintro e w' ⟨rfl, ⟨nd, rfl⟩⟩; refine ⟨_, rfl, ?_⟩))
      go_meet
      case rel => exact ⟨_, (t178), (by first | rfl | (simp; done) | (simp [*]; done)), H', ⟨by have := HJ2.out; first | omega | exact Nat.le_refl _⟩, by repeat (first | exact Drawn0.refl _ | apply Drawn0.step)⟩
    case rest =>
     clear HC19
     try clear c1
     try clear c2
     try clear p2
     try clear c3
     try clear c4
     try clear c6
     try clear c8
     try clear c11
     try clear c13
     try clear c15
     try clear c17
     try clear c20
     try clear p2
     obtain ⟨kq, x20_18, rfl, HA, HJ18, ⟨mc18, rfl⟩⟩ := hcut
     cases kq with
     | zero => exact absurd HA.out (by simp [tremaref02_Class.j2])
     | succ kj18 =>
      have H := HA.out
      clear HA
      simp only [tremaref02_Class.j2] at H
      by_cases c22 : x20_18 = true
      ·subst c22
       have H1 : (some 232) = some r := by rw [if_pos rfl] at H; exact H
       clear H
       have H := H1
       clear H1
       obtain rfl := Option.some.inj H
       go_wp2
       go_ret
       exact ⟨by first | rfl | (simp; done) | (simp [*]; done), by repeat (first | exact Drawn0.refl _ | apply Drawn0.step)⟩
      ·replace c22 := Bool.eq_false_iff.mpr c22
       subst c22
       have H1 : ((tremaref02_in.f a0 790 793).bind fun t179 => (if t179 = true then (tremaref02_Class.j4 kj18 a0 t179) else ((tremaref02_in.f a0 796 800).bind fun t180 => (if t180 = true then (tremaref02_Class.j4 kj18 a0 t180) else ((tremaref02_in.f a0 803 806).bind fun t181 => (if t181 = true then (tremaref02_Class.j4 kj18 a0 t181) else ((tremaref02_in.f a0 809 819).bind fun t182 => (if t182 = true then (tremaref02_Class.j3 kj18 a0 true) else ((tremaref02_in.f a0 825 828).bind fun t183 => (tremaref02_Class.j3 kj18 a0 t183)))))))))) = some r := by rw [if_neg (show ¬ (false = true) by decide)] at H; exact H
       clear H
       have H := H1
       clear H1
       replace H := Option.bind_eq_some_iff.mp H
       obtain ⟨t179, A230, H⟩ := H
       replace H : (if t179 = true then (tremaref02_Class.j4 kj18 a0 t179) else ((tremaref02_in.f a0 796 800).bind fun t180 => (if t180 = true then (tremaref02_Class.j4 kj18 a0 t180) else ((tremaref02_in.f a0 803 806).bind fun t181 => (if t181 = true then (tremaref02_Class.j4 kj18 a0 t181) else ((tremaref02_in.f a0 809 819).bind fun t182 => (if t182 = true then (tremaref02_Class.j3 kj18 a0 true) else ((tremaref02_in.f a0 825 828).bind fun t183 => (tremaref02_Class.j3 kj18 a0 t183))))))))) = some r := H
       have A23 := Aside0.mk A230
       clear A230
       have HC24 := Aside0.mk H
       clear H
       go_upto_if 25 with (first | ((with_reducible refine gate_callee (f := 31) rfl ?_); refine goesL_ (some 27) rfl rfl Tryd.func31 (by kernel_rfl) rfl #[.int .i32 a0, .int .i32 790, .int .i32 793] rfl (by (try simp only [List.map_toArray, List.map_cons, List.map_nil]); first | done | rfl | (simp only [List.length_drop, List.length_take]; rfl)) ?_; (with_reducible refine (tremaref02_in.calls a0 790 793 t179 _ A23.out).mono ?_); rintro e w' ⟨rfl, ⟨nd, rfl⟩⟩; refine ⟨_, rfl, ?_⟩))
       (try simp only [Act.put, List.setIfInBounds_toArray, List.set_cons_zero, List.set_cons_succ])
       go_cut [25] (fun v25 wc => ∃ (kq : Nat) (x25_23 : Bool), v25 = .bool x25_23 ∧ Aside0 (tremaref02_Class.j4 kq a0 x25_23 = some r) ∧ Aside0 (kq ≤ kj18) ∧ Drawn0 w wc)
       case first =>
        have H := HC24.out
        clear HC24
        by_cases c25 : t179 = true
        ·subst c25
         have H1 : (tremaref02_Class.j4 kj18 a0 true) = some r := by rw [if_pos rfl] at H; exact H
         clear H
         have H := H1
         clear H1
         have H' := Aside0.mk H
         clear H
         go_wp2
         go_meet
         case rel => exact ⟨_, (true), (by first | rfl | (simp; done) | (simp [*]; done)), H', ⟨by have := HJ2.out; have := HJ18.out; first | omega | exact Nat.le_refl _⟩, by repeat (first | exact Drawn0.refl _ | apply Drawn0.step)⟩
        ·replace c25 := Bool.eq_false_iff.mpr c25
         subst c25
         have H1 : ((tremaref02_in.f a0 796 800).bind fun t180 => (if t180 = true then (tremaref02_Class.j4 kj18 a0 t180) else ((tremaref02_in.f a0 803 806).bind fun t181 => (if t181 = true then (tremaref02_Class.j4 kj18 a0 t181) else ((tremaref02_in.f a0 809 819).bind fun t182 => (if t182 = true then (tremaref02_Class.j3 kj18 a0 true) else ((tremaref02_in.f a0 825 828).bind fun t183 => (tremaref02_Class.j3 kj18 a0 t183)))))))) = some r := by rw [if_neg (show ¬ (false = true) by decide)] at H; exact H
         clear H
         have H := H1
         clear H1
         replace H := Option.bind_eq_some_iff.mp H
         obtain ⟨t180, A260, H⟩ := H
         replace H : (if t180 = true then (tremaref02_Class.j4 kj18 a0 t180) else ((tremaref02_in.f a0 803 806).bind fun t181 => (if t181 = true then (tremaref02_Class.j4 kj18 a0 t181) else ((tremaref02_in.f a0 809 819).bind fun t182 => (if t182 = true then (tremaref02_Class.j3 kj18 a0 true) else ((tremaref02_in.f a0 825 828).bind fun t183 => (tremaref02_Class.j3 kj18 a0 t183))))))) = some r := H
         have A26 := Aside0.mk A260
         clear A260
         by_cases c27 : t180 = true
         ·subst c27
          have H1 : (tremaref02_Class.j4 kj18 a0 true) = some r := by rw [if_pos rfl] at H; exact H
          clear H
          have H := H1
          clear H1
          have H' := Aside0.mk H
          clear H
          go_wp2_with (first | ((with_reducible refine gate_callee (f := 31) rfl ?_); refine goesL_ (some 29) rfl rfl Tryd.func31 (by kernel_rfl) rfl #[.int .i32 a0, .int .i32 796, .int .i32 800] rfl (by (try simp only [List.map_toArray, List.map_cons, List.map_nil]); first | done | rfl | (simp only [List.length_drop, List.length_take]; rfl)) ?_; (with_reducible refine (tremaref02_in.calls a0 796 800 true _ A26.out).mono ?_); rintro e w' ⟨rfl, ⟨nd, rfl⟩⟩; refine ⟨_, rfl, ?_⟩))
          go_meet
          case rel => exact ⟨_, (true), (by first | rfl | (simp; done) | (simp [*]; done)), H', ⟨by have := HJ2.out; have := HJ18.out; first | omega | exact Nat.le_refl _⟩, by repeat (first | exact Drawn0.refl _ | apply Drawn0.step)⟩
         ·replace c27 := Bool.eq_false_iff.mpr c27
          subst c27
          have H1 : ((tremaref02_in.f a0 803 806).bind fun t181 => (if t181 = true then (tremaref02_Class.j4 kj18 a0 t181) else ((tremaref02_in.f a0 809 819).bind fun t182 => (if t182 = true then (tremaref02_Class.j3 kj18 a0 true) else ((tremaref02_in.f a0 825 828).bind fun t183 => (tremaref02_Class.j3 kj18 a0 t183)))))) = some r := by rw [if_neg (show ¬ (false = true) by decide)] at H; exact H
          clear H
          have H := H1
          clear H1
          replace H := Option.bind_eq_some_iff.mp H
          obtain ⟨t181, A280, H⟩ := H
          replace H : (if t181 = true then (tremaref02_Class.j4 kj18 a0 t181) else ((tremaref02_in.f a0 809 819).bind fun t182 => (if t182 = true then (tremaref02_Class.j3 kj18 a0 true) else ((tremaref02_in.f a0 825 828).bind fun t183 => (tremaref02_Class.j3 kj18 a0 t183))))) = some r := H
          have A28 := Aside0.mk A280
          clear A280
          by_cases c29 : t181 = true
          ·subst c29
           have H1 : (tremaref02_Class.j4 kj18 a0 true) = some r := by rw [if_pos rfl] at H; exact H
           clear H
           have H := H1
           clear H1
           have H' := Aside0.mk H
           clear H
           go_wp2_with (first | ((with_reducible refine gate_callee (f := 31) rfl ?_); refine goesL_ (some 29) rfl rfl Tryd.func31 (by kernel_rfl) rfl #[.int .i32 a0, .int .i32 796, .int .i32 800] rfl (by (try simp only [List.map_toArray, List.map_cons, List.map_nil]); first | done | rfl | (simp only [List.length_drop, List.length_take]; rfl)) ?_; (with_reducible refine (tremaref02_in.calls a0 796 800 false _ A26.out).mono ?_); rintro e w' ⟨rfl, ⟨nd, rfl⟩⟩; refine ⟨_, rfl, ?_⟩) | ((with_reducible refine gate_callee (f := 31) rfl ?_); refine goesL_ (some 31) rfl rfl Tryd.func31 (by kernel_rfl) rfl #[.int .i32 a0, .int .i32 803, .int .i32 806] rfl (by (try simp only [List.map_toArray, List.map_cons, List.map_nil]); first | done | rfl | (simp only [List.length_drop, List.length_take]; rfl)) ?_; (with_reducible refine (tremaref02_in.calls a0 803 806 true _ A28.out).mono ?_); rintro e w' ⟨rfl, ⟨nd, rfl⟩⟩; refine ⟨_, rfl, ?_⟩))
           go_meet
           case rel => exact ⟨_, (true), (by first | rfl | (simp; done) | (simp [*]; done)), H', ⟨by have := HJ2.out; have := HJ18.out; first | omega | exact Nat.le_refl _⟩, by repeat (first | exact Drawn0.refl _ | apply Drawn0.step)⟩
          ·replace c29 := Bool.eq_false_iff.mpr c29
           subst c29
           have H1 : ((tremaref02_in.f a0 809 819).bind fun t182 => (if t182 = true then (tremaref02_Class.j3 kj18 a0 true) else ((tremaref02_in.f a0 825 828).bind fun t183 => (tremaref02_Class.j3 kj18 a0 t183)))) = some r := by rw [if_neg (show ¬ (false = true) by decide)] at H; exact H
           clear H
           have H := H1
           clear H1
           have HC30 := Aside0.mk H
           clear H
           go_upto_region 14 with (first | ((with_reducible refine gate_callee (f := 31) rfl ?_); refine goesL_ (some 29) rfl rfl Tryd.func31 (by kernel_rfl) rfl #[.int .i32 a0, .int .i32 796, .int .i32 800] rfl (by (try simp only [List.map_toArray, List.map_cons, List.map_nil]); first | done | rfl | (simp only [List.length_drop, List.length_take]; rfl)) ?_; (with_reducible refine (tremaref02_in.calls a0 796 800 false _ A26.out).mono ?_); rintro e w' ⟨rfl, ⟨nd, rfl⟩⟩; refine ⟨_, rfl, ?_⟩) | ((with_reducible refine gate_callee (f := 31) rfl ?_); refine goesL_ (some 31) rfl rfl Tryd.func31 (by kernel_rfl) rfl #[.int .i32 a0, .int .i32 803, .int .i32 806] rfl (by (try simp only [List.map_toArray, List.map_cons, List.map_nil]); first | done | rfl | (simp only [List.length_drop, List.length_take]; rfl)) ?_; (with_reducible refine (tremaref02_in.calls a0 803 806 false _ A28.out).mono ?_); rintro e w' ⟨rfl, ⟨nd, rfl⟩⟩; refine ⟨_, rfl, ?_⟩))
           (try simp only [Act.put, List.setIfInBounds_toArray, List.set_cons_zero, List.set_cons_succ])
           go_cut [25] (fun v25 wc => ∃ (kq : Nat) (x25_29 : Bool), v25 = .bool x25_29 ∧ Aside0 (tremaref02_Class.j3 kq a0 x25_29 = some r) ∧ Aside0 (kq ≤ kj18) ∧ Drawn0 w wc)
           case first =>
            have H := HC30.out
            clear HC30
            replace H := Option.bind_eq_some_iff.mp H
            obtain ⟨t182, A310, H⟩ := H
            replace H : (if t182 = true then (tremaref02_Class.j3 kj18 a0 true) else ((tremaref02_in.f a0 825 828).bind fun t183 => (tremaref02_Class.j3 kj18 a0 t183))) = some r := H
            have A31 := Aside0.mk A310
            clear A310
            by_cases c32 : t182 = true
            ·subst c32
             have H1 : (tremaref02_Class.j3 kj18 a0 true) = some r := by rw [if_pos rfl] at H; exact H
             clear H
             have H := H1
             clear H1
             have H' := Aside0.mk H
             clear H
             go_wp2_with (first | ((with_reducible refine gate_callee (f := 31) rfl ?_); refine goesL_ (some 33) rfl rfl Tryd.func31 (by kernel_rfl) rfl #[.int .i32 a0, .int .i32 809, .int .i32 819] rfl (by (try simp only [List.map_toArray, List.map_cons, List.map_nil]); first | done | rfl | (simp only [List.length_drop, List.length_take]; rfl)) ?_; (with_reducible refine (tremaref02_in.calls a0 809 819 true _ A31.out).mono ?_); rintro e w' ⟨rfl, ⟨nd, rfl⟩⟩; refine ⟨_, rfl, ?_⟩))
             go_meet
             case rel => exact ⟨_, (true), (by first | rfl | (simp; done) | (simp [*]; done)), H', ⟨by have := HJ2.out; have := HJ18.out; first | omega | exact Nat.le_refl _⟩, by repeat (first | exact Drawn0.refl _ | apply Drawn0.step)⟩
            ·replace c32 := Bool.eq_false_iff.mpr c32
             subst c32
             have H1 : ((tremaref02_in.f a0 825 828).bind fun t183 => (tremaref02_Class.j3 kj18 a0 t183)) = some r := by rw [if_neg (show ¬ (false = true) by decide)] at H; exact H
             clear H
             have H := H1
             clear H1
             replace H := Option.bind_eq_some_iff.mp H
             obtain ⟨t183, A330, H⟩ := H
             replace H : (tremaref02_Class.j3 kj18 a0 t183) = some r := H
             have A33 := Aside0.mk A330
             clear A330
             have H' := Aside0.mk H
             clear H
             go_wp2_with (first | ((with_reducible refine gate_callee (f := 31) rfl ?_); refine goesL_ (some 33) rfl rfl Tryd.func31 (by kernel_rfl) rfl #[.int .i32 a0, .int .i32 809, .int .i32 819] rfl (by (try simp only [List.map_toArray, List.map_cons, List.map_nil]); first | done | rfl | (simp only [List.length_drop, List.length_take]; rfl)) ?_; (with_reducible refine (tremaref02_in.calls a0 809 819 false _ A31.out).mono ?_); rintro e w' ⟨rfl, ⟨nd, rfl⟩⟩; refine ⟨_, rfl, ?_⟩) | (go_at_call 31; (with_reducible refine (tremaref02_in.calls a0 825 828 t183 _ A33.out).mono ?_); rintro e w' ⟨rfl, ⟨nd, rfl⟩⟩))
             go_meet
             case rel => exact ⟨_, (t183), (by first | rfl | (simp; done) | (simp [*]; done)), H', ⟨by have := HJ2.out; have := HJ18.out; first | omega | exact Nat.le_refl _⟩, by repeat (first | exact Drawn0.refl _ | apply Drawn0.step)⟩
           case rest =>
            clear HC30
            try clear c1
            try clear c2
            try clear p2
            try clear c3
            try clear c4
            try clear c6
            try clear c8
            try clear c11
            try clear c13
            try clear c15
            try clear c17
            try clear c18
            try clear c20
            try clear c22
            try clear c25
            try clear c27
            try clear c29
            try clear c31
            try clear c32
            try clear p2
            obtain ⟨kq, x25_29, rfl, HA, HJ29, ⟨mc29, rfl⟩⟩ := hcut
            cases kq with
            | zero => exact absurd HA.out (by simp [tremaref02_Class.j3])
            | succ kj29 =>
             have H := HA.out
             clear HA
             simp only [tremaref02_Class.j3] at H
             by_cases c34 : x25_29 = true
             ·subst c34
              have H1 : (tremaref02_Class.j4 kj29 a0 true) = some r := by rw [if_pos rfl] at H; exact H
              clear H
              have H := H1
              clear H1
              have H' := Aside0.mk H
              clear H
              go_wp2
              go_meet
              case rel => exact ⟨_, (true), (by first | rfl | (simp; done) | (simp [*]; done)), H', ⟨by have := HJ2.out; have := HJ18.out; have := HJ29.out; first | omega | exact Nat.le_refl _⟩, by repeat (first | exact Drawn0.refl _ | apply Drawn0.step)⟩
             ·replace c34 := Bool.eq_false_iff.mpr c34
              subst c34
              have H1 : ((tremaref02_in.f a0 839 841).bind fun t184 => (if t184 = true then (tremaref02_Class.j4 kj29 a0 t184) else ((tremaref02_in.f a0 845 846).bind fun t185 => (if t185 = true then (tremaref02_Class.j4 kj29 a0 t185) else ((tremaref02_in.f a0 851 854).bind fun t186 => (tremaref02_Class.j4 kj29 a0 t186)))))) = some r := by rw [if_neg (show ¬ (false = true) by decide)] at H; exact H
              clear H
              have H := H1
              clear H1
              replace H := Option.bind_eq_some_iff.mp H
              obtain ⟨t184, A350, H⟩ := H
              replace H : (if t184 = true then (tremaref02_Class.j4 kj29 a0 t184) else ((tremaref02_in.f a0 845 846).bind fun t185 => (if t185 = true then (tremaref02_Class.j4 kj29 a0 t185) else ((tremaref02_in.f a0 851 854).bind fun t186 => (tremaref02_Class.j4 kj29 a0 t186))))) = some r := H
              have A35 := Aside0.mk A350
              clear A350
              by_cases c36 : t184 = true
              ·subst c36
               have H1 : (tremaref02_Class.j4 kj29 a0 true) = some r := by rw [if_pos rfl] at H; exact H
               clear H
               have H := H1
               clear H1
               have H' := Aside0.mk H
               clear H
               go_wp2_with (first | ((with_reducible refine gate_callee (f := 31) rfl ?_); refine goesL_ (some 39) rfl rfl Tryd.func31 (by kernel_rfl) rfl #[.int .i32 a0, .int .i32 839, .int .i32 841] rfl (by (try simp only [List.map_toArray, List.map_cons, List.map_nil]); first | done | rfl | (simp only [List.length_drop, List.length_take]; rfl)) ?_; (with_reducible refine (tremaref02_in.calls a0 839 841 true _ A35.out).mono ?_); rintro e w' ⟨rfl, ⟨nd, rfl⟩⟩; refine ⟨_, rfl, ?_⟩))
               go_meet
               case rel => exact ⟨_, (true), (by first | rfl | (simp; done) | (simp [*]; done)), H', ⟨by have := HJ2.out; have := HJ18.out; have := HJ29.out; first | omega | exact Nat.le_refl _⟩, by repeat (first | exact Drawn0.refl _ | apply Drawn0.step)⟩
              ·replace c36 := Bool.eq_false_iff.mpr c36
               subst c36
               have H1 : ((tremaref02_in.f a0 845 846).bind fun t185 => (if t185 = true then (tremaref02_Class.j4 kj29 a0 t185) else ((tremaref02_in.f a0 851 854).bind fun t186 => (tremaref02_Class.j4 kj29 a0 t186)))) = some r := by rw [if_neg (show ¬ (false = true) by decide)] at H; exact H
               clear H
               have H := H1
               clear H1
               replace H := Option.bind_eq_some_iff.mp H
               obtain ⟨t185, A370, H⟩ := H
               replace H : (if t185 = true then (tremaref02_Class.j4 kj29 a0 t185) else ((tremaref02_in.f a0 851 854).bind fun t186 => (tremaref02_Class.j4 kj29 a0 t186))) = some r := H
               have A37 := Aside0.mk A370
               clear A370
               by_cases c38 : t185 = true
               ·subst c38
                have H1 : (tremaref02_Class.j4 kj29 a0 true) = some r := by rw [if_pos rfl] at H; exact H
                clear H
                have H := H1
                clear H1
                have H' := Aside0.mk H
                clear H
                go_wp2_with (first | ((with_reducible refine gate_callee (f := 31) rfl ?_); refine goesL_ (some 39) rfl rfl Tryd.func31 (by kernel_rfl) rfl #[.int .i32 a0, .int .i32 839, .int .i32 841] rfl (by (try simp only [List.map_toArray, List.map_cons, List.map_nil]); first | done | rfl | (simp only [List.length_drop, List.length_take]; rfl)) ?_; (with_reducible refine (tremaref02_in.calls a0 839 841 false _ A35.out).mono ?_); rintro e w' ⟨rfl, ⟨nd, rfl⟩⟩; refine ⟨_, rfl, ?_⟩) | ((with_reducible refine gate_callee (f := 31) rfl ?_); refine goesL_ (some 41) rfl rfl Tryd.func31 (by kernel_rfl) rfl #[.int .i32 a0, .int .i32 845, .int .i32 846] rfl (by (try simp only [List.map_toArray, List.map_cons, List.map_nil]); first | done | rfl | (simp only [List.length_drop, List.length_take]; rfl)) ?_; (with_reducible refine (tremaref02_in.calls a0 845 846 true _ A37.out).mono ?_); rintro e w' ⟨rfl, ⟨nd, rfl⟩⟩; refine ⟨_, rfl, ?_⟩))
                go_meet
                case rel => exact ⟨_, (true), (by first | rfl | (simp; done) | (simp [*]; done)), H', ⟨by have := HJ2.out; have := HJ18.out; have := HJ29.out; first | omega | exact Nat.le_refl _⟩, by repeat (first | exact Drawn0.refl _ | apply Drawn0.step)⟩
               ·replace c38 := Bool.eq_false_iff.mpr c38
                subst c38
                have H1 : ((tremaref02_in.f a0 851 854).bind fun t186 => (tremaref02_Class.j4 kj29 a0 t186)) = some r := by rw [if_neg (show ¬ (false = true) by decide)] at H; exact H
                clear H
                have H := H1
                clear H1
                replace H := Option.bind_eq_some_iff.mp H
                obtain ⟨t186, A390, H⟩ := H
                replace H : (tremaref02_Class.j4 kj29 a0 t186) = some r := H
                have A39 := Aside0.mk A390
                clear A390
                have H' := Aside0.mk H
                clear H
                go_wp2_with (first | ((with_reducible refine gate_callee (f := 31) rfl ?_); refine goesL_ (some 39) rfl rfl Tryd.func31 (by kernel_rfl) rfl #[.int .i32 a0, .int .i32 839, .int .i32 841] rfl (by (try simp only [List.map_toArray, List.map_cons, List.map_nil]); first | done | rfl | (simp only [List.length_drop, List.length_take]; rfl)) ?_; (with_reducible refine (tremaref02_in.calls a0 839 841 false _ A35.out).mono ?_); rintro e w' ⟨rfl, ⟨nd, rfl⟩⟩; refine ⟨_, rfl, ?_⟩) | ((with_reducible refine gate_callee (f := 31) rfl ?_); refine goesL_ (some 41) rfl rfl Tryd.func31 (by kernel_rfl) rfl #[.int .i32 a0, .int .i32 845, .int .i32 846] rfl (by (try simp only [List.map_toArray, List.map_cons, List.map_nil]); first | done | rfl | (simp only [List.length_drop, List.length_take]; rfl)) ?_; (with_reducible refine (tremaref02_in.calls a0 845 846 false _ A37.out).mono ?_); rintro e w' ⟨rfl, ⟨nd, rfl⟩⟩; refine ⟨_, rfl, ?_⟩) | ((with_reducible refine gate_callee (f := 31) rfl ?_); refine goesL_ (some 43) rfl rfl Tryd.func31 (by kernel_rfl) rfl #[.int .i32 a0, .int .i32 851, .int .i32 854] rfl (by (try simp only [List.map_toArray, List.map_cons, List.map_nil]); first | done | rfl | (simp only [List.length_drop, List.length_take]; rfl)) ?_; (with_reducible refine (tremaref02_in.calls a0 851 854 t186 _ A39.out).mono ?_); rintro e w' ⟨rfl, ⟨nd, rfl⟩⟩; refine ⟨_, rfl, ?_⟩))
                go_meet
                case rel => exact ⟨_, (t186), (by first | rfl | (simp; done) | (simp [*]; done)), H', ⟨by have := HJ2.out; have := HJ18.out; have := HJ29.out; first | omega | exact Nat.le_refl _⟩, by repeat (first | exact Drawn0.refl _ | apply Drawn0.step)⟩
       case rest =>
        clear HC24
        try clear c1
        try clear c2
        try clear p2
        try clear c3
        try clear c4
        try clear c6
        try clear c8
        try clear c11
        try clear c13
        try clear c15
        try clear c17
        try clear c18
        try clear c20
        try clear c22
        try clear c25
        try clear c27
        try clear c29
        try clear c31
        try clear c32
        try clear c34
        try clear c36
        try clear c38
        try clear p2
        obtain ⟨kq, x25_23, rfl, HA, HJ23, ⟨mc23, rfl⟩⟩ := hcut
        cases kq with
        | zero => exact absurd HA.out (by simp [tremaref02_Class.j4])
        | succ kj23 =>
         have H := HA.out
         clear HA
         simp only [tremaref02_Class.j4] at H
         by_cases c40 : x25_23 = true
         ·subst c40
          have H1 : (some 220) = some r := by rw [if_pos rfl] at H; exact H
          clear H
          have H := H1
          clear H1
          obtain rfl := Option.some.inj H
          go_wp2
          go_ret
          exact ⟨by first | rfl | (simp; done) | (simp [*]; done), by repeat (first | exact Drawn0.refl _ | apply Drawn0.step)⟩
         ·replace c40 := Bool.eq_false_iff.mpr c40
          subst c40
          have H1 : ((tremaref02_in.f a0 795 795).bind fun t187 => (if t187 = true then (some 216) else ((tremaref02_in.f a0 801 802).bind fun t188 => (if t188 = true then (tremaref02_Class.j5 kj23 a0 t188) else ((tremaref02_in.f a0 807 808).bind fun t189 => (tremaref02_Class.j5 kj23 a0 t189)))))) = some r := by rw [if_neg (show ¬ (false = true) by decide)] at H; exact H
          clear H
          have H := H1
          clear H1
          replace H := Option.bind_eq_some_iff.mp H
          obtain ⟨t187, A410, H⟩ := H
          replace H : (if t187 = true then (some 216) else ((tremaref02_in.f a0 801 802).bind fun t188 => (if t188 = true then (tremaref02_Class.j5 kj23 a0 t188) else ((tremaref02_in.f a0 807 808).bind fun t189 => (tremaref02_Class.j5 kj23 a0 t189))))) = some r := H
          have A41 := Aside0.mk A410
          clear A410
          by_cases c42 : t187 = true
          ·subst c42
           have H1 : (some 216) = some r := by rw [if_pos rfl] at H; exact H
           clear H
           have H := H1
           clear H1
           obtain rfl := Option.some.inj H
           go_wp2_with (first | ((with_reducible refine gate_callee (f := 31) rfl ?_); refine goesL_ (some 46) rfl rfl Tryd.func31 (by kernel_rfl) rfl #[.int .i32 a0, .int .i32 795, .int .i32 795] rfl (by (try simp only [List.map_toArray, List.map_cons, List.map_nil]); first | done | rfl | (simp only [List.length_drop, List.length_take]; rfl)) ?_; (with_reducible refine (tremaref02_in.calls a0 795 795 true _ A41.out).mono ?_); rintro e w' ⟨rfl, ⟨nd, rfl⟩⟩; refine ⟨_, rfl, ?_⟩))
           go_ret
           exact ⟨by first | rfl | (simp; done) | (simp [*]; done), by repeat (first | exact Drawn0.refl _ | apply Drawn0.step)⟩
          ·replace c42 := Bool.eq_false_iff.mpr c42
           subst c42
           have H1 : ((tremaref02_in.f a0 801 802).bind fun t188 => (if t188 = true then (tremaref02_Class.j5 kj23 a0 t188) else ((tremaref02_in.f a0 807 808).bind fun t189 => (tremaref02_Class.j5 kj23 a0 t189)))) = some r := by rw [if_neg (show ¬ (false = true) by decide)] at H; exact H
           clear H
           have H := H1
           clear H1
           replace H := Option.bind_eq_some_iff.mp H
           obtain ⟨t188, A430, H⟩ := H
           replace H : (if t188 = true then (tremaref02_Class.j5 kj23 a0 t188) else ((tremaref02_in.f a0 807 808).bind fun t189 => (tremaref02_Class.j5 kj23 a0 t189))) = some r := H
           have A43 := Aside0.mk A430
           clear A430
           have HC44 := Aside0.mk H
           clear H
           go_upto_if 47 with (first | ((with_reducible refine gate_callee (f := 31) rfl ?_); refine goesL_ (some 46) rfl rfl Tryd.func31 (by kernel_rfl) rfl #[.int .i32 a0, .int .i32 795, .int .i32 795] rfl (by (try simp only [List.map_toArray, List.map_cons, List.map_nil]); first | done | rfl | (simp only [List.length_drop, List.length_take]; rfl)) ?_; (with_reducible refine (tremaref02_in.calls a0 795 795 false _ A41.out).mono ?_); rintro e w' ⟨rfl, ⟨nd, rfl⟩⟩; refine ⟨_, rfl, ?_⟩) | ((with_reducible refine gate_callee (f := 31) rfl ?_); refine goesL_ (some 49) rfl rfl Tryd.func31 (by kernel_rfl) rfl #[.int .i32 a0, .int .i32 801, .int .i32 802] rfl (by (try simp only [List.map_toArray, List.map_cons, List.map_nil]); first | done | rfl | (simp only [List.length_drop, List.length_take]; rfl)) ?_; (with_reducible refine (tremaref02_in.calls a0 801 802 t188 _ A43.out).mono ?_); rintro e w' ⟨rfl, ⟨nd, rfl⟩⟩; refine ⟨_, rfl, ?_⟩))
           (try simp only [Act.put, List.setIfInBounds_toArray, List.set_cons_zero, List.set_cons_succ])
           go_cut [47] (fun v47 wc => ∃ (kq : Nat) (x47_43 : Bool), v47 = .bool x47_43 ∧ Aside0 (tremaref02_Class.j5 kq a0 x47_43 = some r) ∧ Aside0 (kq ≤ kj23) ∧ Drawn0 w wc)
           case first =>
            have H := HC44.out
            clear HC44
            by_cases c45 : t188 = true
            ·subst c45
             have H1 : (tremaref02_Class.j5 kj23 a0 true) = some r := by rw [if_pos rfl] at H; exact H
             clear H
             have H := H1
             clear H1
             have H' := Aside0.mk H
             clear H
             go_wp2
             go_meet
             case rel => exact ⟨_, (true), (by first | rfl | (simp; done) | (simp [*]; done)), H', ⟨by have := HJ2.out; have := HJ18.out; have := HJ23.out; first | omega | exact Nat.le_refl _⟩, by repeat (first | exact Drawn0.refl _ | apply Drawn0.step)⟩
            ·replace c45 := Bool.eq_false_iff.mpr c45
             subst c45
             have H1 : ((tremaref02_in.f a0 807 808).bind fun t189 => (tremaref02_Class.j5 kj23 a0 t189)) = some r := by rw [if_neg (show ¬ (false = true) by decide)] at H; exact H
             clear H
             have H := H1
             clear H1
             replace H := Option.bind_eq_some_iff.mp H
             obtain ⟨t189, A460, H⟩ := H
             replace H : (tremaref02_Class.j5 kj23 a0 t189) = some r := H
             have A46 := Aside0.mk A460
             clear A460
             have H' := Aside0.mk H
             clear H
             go_wp2_with (first | ((with_reducible refine gate_callee (f := 31) rfl ?_); refine goesL_ (some 51) rfl rfl Tryd.func31 (by kernel_rfl) rfl #[.int .i32 a0, .int .i32 807, .int .i32 808] rfl (by (try simp only [List.map_toArray, List.map_cons, List.map_nil]); first | done | rfl | (simp only [List.length_drop, List.length_take]; rfl)) ?_; (with_reducible refine (tremaref02_in.calls a0 807 808 t189 _ A46.out).mono ?_); rintro e w' ⟨rfl, ⟨nd, rfl⟩⟩; refine ⟨_, rfl, ?_⟩))
             go_meet
             case rel => exact ⟨_, (t189), (by first | rfl | (simp; done) | (simp [*]; done)), H', ⟨by have := HJ2.out; have := HJ18.out; have := HJ23.out; first | omega | exact Nat.le_refl _⟩, by repeat (first | exact Drawn0.refl _ | apply Drawn0.step)⟩
           case rest =>
            clear HC44
            try clear c1
            try clear c2
            try clear p2
            try clear c3
            try clear c4
            try clear c6
            try clear c8
            try clear c11
            try clear c13
            try clear c15
            try clear c17
            try clear c18
            try clear c20
            try clear c22
            try clear c23
            try clear c25
            try clear c27
            try clear c29
            try clear c31
            try clear c32
            try clear c34
            try clear c36
            try clear c38
            try clear c40
            try clear c42
            try clear c45
            try clear p2
            obtain ⟨kq, x47_43, rfl, HA, HJ43, ⟨mc43, rfl⟩⟩ := hcut
            cases kq with
            | zero => exact absurd HA.out (by simp [tremaref02_Class.j5])
            | succ kj43 =>
             have H := HA.out
             clear HA
             simp only [tremaref02_Class.j5] at H
             by_cases c47 : x47_43 = true
             ·subst c47
              have H1 : (some 202) = some r := by rw [if_pos rfl] at H; exact H
              clear H
              have H := H1
              clear H1
              obtain rfl := Option.some.inj H
              go_wp2
              go_ret
              exact ⟨by first | rfl | (simp; done) | (simp [*]; done), by repeat (first | exact Drawn0.refl _ | apply Drawn0.step)⟩
             ·replace c47 := Bool.eq_false_iff.mpr c47
              subst c47
              have H1 : ((tremaref02_in.f a0 820 824).bind fun t190 => (if t190 = true then (some 1) else ((tremaref02_in.f a0 837 837).bind fun t191 => (if t191 = true then (some 240) else ((tremaref02_in.f a0 12441 12442).bind fun t192 => (if t192 = true then (some 8) else (some 0))))))) = some r := by rw [if_neg (show ¬ (false = true) by decide)] at H; exact H
              clear H
              have H := H1
              clear H1
              replace H := Option.bind_eq_some_iff.mp H
              obtain ⟨t190, A480, H⟩ := H
              replace H : (if t190 = true then (some 1) else ((tremaref02_in.f a0 837 837).bind fun t191 => (if t191 = true then (some 240) else ((tremaref02_in.f a0 12441 12442).bind fun t192 => (if t192 = true then (some 8) else (some 0)))))) = some r := H
              have A48 := Aside0.mk A480
              clear A480
              by_cases c49 : t190 = true
              ·subst c49
               have H1 : (some 1) = some r := by rw [if_pos rfl] at H; exact H
               clear H
               have H := H1
               clear H1
               obtain rfl := Option.some.inj H
               go_wp2_with (first | ((with_reducible refine gate_callee (f := 31) rfl ?_); refine goesL_ (some 54) rfl rfl Tryd.func31 (by kernel_rfl) rfl #[.int .i32 a0, .int .i32 820, .int .i32 824] rfl (by (try simp only [List.map_toArray, List.map_cons, List.map_nil]); first | done | rfl | (simp only [List.length_drop, List.length_take]; rfl)) ?_; (with_reducible refine (tremaref02_in.calls a0 820 824 true _ A48.out).mono ?_); rintro e w' ⟨rfl, ⟨nd, rfl⟩⟩; refine ⟨_, rfl, ?_⟩))
               go_ret
               exact ⟨by first | rfl | (simp; done) | (simp [*]; done), by repeat (first | exact Drawn0.refl _ | apply Drawn0.step)⟩
              ·replace c49 := Bool.eq_false_iff.mpr c49
               subst c49
               have H1 : ((tremaref02_in.f a0 837 837).bind fun t191 => (if t191 = true then (some 240) else ((tremaref02_in.f a0 12441 12442).bind fun t192 => (if t192 = true then (some 8) else (some 0))))) = some r := by rw [if_neg (show ¬ (false = true) by decide)] at H; exact H
               clear H
               have H := H1
               clear H1
               replace H := Option.bind_eq_some_iff.mp H
               obtain ⟨t191, A500, H⟩ := H
               replace H : (if t191 = true then (some 240) else ((tremaref02_in.f a0 12441 12442).bind fun t192 => (if t192 = true then (some 8) else (some 0)))) = some r := H
               have A50 := Aside0.mk A500
               clear A500
               by_cases c51 : t191 = true
               ·subst c51
                have H1 : (some 240) = some r := by rw [if_pos rfl] at H; exact H
                clear H
                have H := H1
                clear H1
                obtain rfl := Option.some.inj H
                go_wp2_with (first | ((with_reducible refine gate_callee (f := 31) rfl ?_); refine goesL_ (some 54) rfl rfl Tryd.func31 (by kernel_rfl) rfl #[.int .i32 a0, .int .i32 820, .int .i32 824] rfl (by (try simp only [List.map_toArray, List.map_cons, List.map_nil]); first | done | rfl | (simp only [List.length_drop, List.length_take]; rfl)) ?_; (with_reducible refine (tremaref02_in.calls a0 820 824 false _ A48.out).mono ?_); rintro e w' ⟨rfl, ⟨nd, rfl⟩⟩; refine ⟨_, rfl, ?_⟩) | ((with_reducible refine gate_callee (f := 31) rfl ?_); refine goesL_ (some 57) rfl rfl Tryd.func31 (by kernel_rfl) rfl #[.int .i32 a0, .int .i32 837, .int .i32 837] rfl (by (try simp only [List.map_toArray, List.map_cons, List.map_nil]); first | done | rfl | (simp only [List.length_drop, List.length_take]; rfl)) ?_; (with_reducible refine (tremaref02_in.calls a0 837 837 true _ A50.out).mono ?_); rintro e w' ⟨rfl, ⟨nd, rfl⟩⟩; refine ⟨_, rfl, ?_⟩))
                go_ret
                exact ⟨by first | rfl | (simp; done) | (simp [*]; done), by repeat (first | exact Drawn0.refl _ | apply Drawn0.step)⟩
               ·replace c51 := Bool.eq_false_iff.mpr c51
                subst c51
                have H1 : ((tremaref02_in.f a0 12441 12442).bind fun t192 => (if t192 = true then (some 8) else (some 0))) = some r := by rw [if_neg (show ¬ (false = true) by decide)] at H; exact H
                clear H
                have H := H1
                clear H1
                replace H := Option.bind_eq_some_iff.mp H
                obtain ⟨t192, A520, H⟩ := H
                replace H : (if t192 = true then (some 8) else (some 0)) = some r := H
                have A52 := Aside0.mk A520
                clear A520
                by_cases c53 : t192 = true
                ·subst c53
                 have H1 : (some 8) = some r := by rw [if_pos rfl] at H; exact H
                 clear H
                 have H := H1
                 clear H1
                 obtain rfl := Option.some.inj H
                 go_wp2_with (first | ((with_reducible refine gate_callee (f := 31) rfl ?_); refine goesL_ (some 54) rfl rfl Tryd.func31 (by kernel_rfl) rfl #[.int .i32 a0, .int .i32 820, .int .i32 824] rfl (by (try simp only [List.map_toArray, List.map_cons, List.map_nil]); first | done | rfl | (simp only [List.length_drop, List.length_take]; rfl)) ?_; (with_reducible refine (tremaref02_in.calls a0 820 824 false _ A48.out).mono ?_); rintro e w' ⟨rfl, ⟨nd, rfl⟩⟩; refine ⟨_, rfl, ?_⟩) | ((with_reducible refine gate_callee (f := 31) rfl ?_); refine goesL_ (some 57) rfl rfl Tryd.func31 (by kernel_rfl) rfl #[.int .i32 a0, .int .i32 837, .int .i32 837] rfl (by (try simp only [List.map_toArray, List.map_cons, List.map_nil]); first | done | rfl | (simp only [List.length_drop, List.length_take]; rfl)) ?_; (with_reducible refine (tremaref02_in.calls a0 837 837 false _ A50.out).mono ?_); rintro e w' ⟨rfl, ⟨nd, rfl⟩⟩; refine ⟨_, rfl, ?_⟩) | ((with_reducible refine gate_callee (f := 31) rfl ?_); refine goesL_ (some 60) rfl rfl Tryd.func31 (by kernel_rfl) rfl #[.int .i32 a0, .int .i32 12441, .int .i32 12442] rfl (by (try simp only [List.map_toArray, List.map_cons, List.map_nil]); first | done | rfl | (simp only [List.length_drop, List.length_take]; rfl)) ?_; (with_reducible refine (tremaref02_in.calls a0 12441 12442 true _ A52.out).mono ?_); rintro e w' ⟨rfl, ⟨nd, rfl⟩⟩; refine ⟨_, rfl, ?_⟩))
                 go_ret
                 exact ⟨by first | rfl | (simp; done) | (simp [*]; done), by repeat (first | exact Drawn0.refl _ | apply Drawn0.step)⟩
                ·replace c53 := Bool.eq_false_iff.mpr c53
                 subst c53
                 have H1 : (some 0) = some r := by rw [if_neg (show ¬ (false = true) by decide)] at H; exact H
                 clear H
                 have H := H1
                 clear H1
                 obtain rfl := Option.some.inj H
                 go_wp2_with (first | ((with_reducible refine gate_callee (f := 31) rfl ?_); refine goesL_ (some 54) rfl rfl Tryd.func31 (by kernel_rfl) rfl #[.int .i32 a0, .int .i32 820, .int .i32 824] rfl (by (try simp only [List.map_toArray, List.map_cons, List.map_nil]); first | done | rfl | (simp only [List.length_drop, List.length_take]; rfl)) ?_; (with_reducible refine (tremaref02_in.calls a0 820 824 false _ A48.out).mono ?_); rintro e w' ⟨rfl, ⟨nd, rfl⟩⟩; refine ⟨_, rfl, ?_⟩) | ((with_reducible refine gate_callee (f := 31) rfl ?_); refine goesL_ (some 57) rfl rfl Tryd.func31 (by kernel_rfl) rfl #[.int .i32 a0, .int .i32 837, .int .i32 837] rfl (by (try simp only [List.map_toArray, List.map_cons, List.map_nil]); first | done | rfl | (simp only [List.length_drop, List.length_take]; rfl)) ?_; (with_reducible refine (tremaref02_in.calls a0 837 837 false _ A50.out).mono ?_); rintro e w' ⟨rfl, ⟨nd, rfl⟩⟩; refine ⟨_, rfl, ?_⟩) | ((with_reducible refine gate_callee (f := 31) rfl ?_); refine goesL_ (some 60) rfl rfl Tryd.func31 (by kernel_rfl) rfl #[.int .i32 a0, .int .i32 12441, .int .i32 12442] rfl (by (try simp only [List.map_toArray, List.map_cons, List.map_nil]); first | done | rfl | (simp only [List.length_drop, List.length_take]; rfl)) ?_; (with_reducible refine (tremaref02_in.calls a0 12441 12442 false _ A52.out).mono ?_); rintro e w' ⟨rfl, ⟨nd, rfl⟩⟩; refine ⟨_, rfl, ?_⟩))
                 go_ret
                 exact ⟨by first | rfl | (simp; done) | (simp [*]; done), by repeat (first | exact Drawn0.refl _ | apply Drawn0.step)⟩

end Go.Proofs.YtfiihlgigeijcaaDoor.X
