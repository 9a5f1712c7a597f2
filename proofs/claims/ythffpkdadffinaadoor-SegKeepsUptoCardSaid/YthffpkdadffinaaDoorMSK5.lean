/-
  Several texts of this claim in one: what its law's proof uses.
-/
import Derived.Test.YthffpkdadffinaaDoorMSK2
import Derived.Test.YthffpkdadffinaaDoorMSK4
namespace Go.Proofs.YthffpkdadffinaaDoor.X
open Go.RowKit Go.Proofs.YthffpkdadffinaaDoorW.PrintWords Go.Proofs.YthffpkdadffinaaDoorW.PrintLast Go.Proofs.YthffpkdadffinaaDoorW.PrintMore
attribute [local go_sem] max2_int min2_int max_two min_two max_three min_three max_four min_four   
set_option linter.unusedVariables false
set_option linter.unusedSimpArgs false
mutual
def tremaref02_Class.j1 : Nat → Int → Bool → Option (Int)
 | 0, _, _ => none
 | k + 1, x0, x3 => if x3 = true then (some 230) else ((tremaref02_in.f x0 789 789).bind fun t157 => (if t157 = true then (tremaref02_Class.j2 k x0 t157) else ((tremaref02_in.f x0 794 794).bind fun t158 => (tremaref02_Class.j2 k x0 t158))))
def tremaref02_Class.j2 : Nat → Int → Bool → Option (Int)
 | 0, _, _ => none
 | k + 1, x0, x20 => if x20 = true then (some 232) else ((tremaref02_in.f x0 790 793).bind fun t159 => (if t159 = true then (tremaref02_Class.j4 k x0 t159) else ((tremaref02_in.f x0 796 800).bind fun t160 => (if t160 = true then (tremaref02_Class.j4 k x0 t160) else ((tremaref02_in.f x0 803 806).bind fun t161 => (if t161 = true then (tremaref02_Class.j4 k x0 t161) else ((tremaref02_in.f x0 809 819).bind fun t162 => (if t162 = true then (tremaref02_Class.j3 k x0 true) else ((tremaref02_in.f x0 825 828).bind fun t163 => (tremaref02_Class.j3 k x0 t163))))))))))
def tremaref02_Class.j4 : Nat → Int → Bool → Option (Int)
 | 0, _, _ => none
 | k + 1, x0, x25 => if x25 = true then (some 220) else ((tremaref02_in.f x0 795 795).bind fun t167 => (if t167 = true then (some 216) else ((tremaref02_in.f x0 801 802).bind fun t168 => (if t168 = true then (tremaref02_Class.j5 k x0 t168) else ((tremaref02_in.f x0 807 808).bind fun t169 => (tremaref02_Class.j5 k x0 t169))))))
def tremaref02_Class.j5 : Nat → Int → Bool → Option (Int)
 | 0, _, _ => none
 | k + 1, x0, x47 => if x47 = true then (some 202) else ((tremaref02_in.f x0 820 824).bind fun t170 => (if t170 = true then (some 1) else ((tremaref02_in.f x0 837 837).bind fun t171 => (if t171 = true then (some 240) else ((tremaref02_in.f x0 12441 12442).bind fun t172 => (if t172 = true then (some 8) else (some 0)))))))
def tremaref02_Class.j3 : Nat → Int → Bool → Option (Int)
 | 0, _, _ => none
 | k + 1, x0, x25 => if x25 = true then (tremaref02_Class.j4 k x0 x25) else ((tremaref02_in.f x0 839 841).bind fun t164 => (if t164 = true then (tremaref02_Class.j4 k x0 t164) else ((tremaref02_in.f x0 845 846).bind fun t165 => (if t165 = true then (tremaref02_Class.j4 k x0 t165) else ((tremaref02_in.f x0 851 854).bind fun t166 => (tremaref02_Class.j4 k x0 t166))))))
def tremaref02_Class.j0 : Nat → Int → Bool → Option (Int)
 | 0, _, _ => none
 | k + 1, x0, x3 => if x3 = true then (tremaref02_Class.j1 k x0 x3) else ((tremaref02_in.f x0 855 855).bind fun t155 => (if t155 = true then (tremaref02_Class.j1 k x0 t155) else ((tremaref02_in.f x0 8400 8401).bind fun t156 => (tremaref02_Class.j1 k x0 t156))))
end
def tremaref02_Class.f (k : Nat) (a0 : Int) : Option (Int) := (tremaref02_in.f a0 768 788).bind fun t150 => (if t150 = true then (tremaref02_Class.j1 k a0 t150) else ((tremaref02_in.f a0 829 836).bind fun t151 => (if t151 = true then (tremaref02_Class.j1 k a0 t151) else ((tremaref02_in.f a0 838 838).bind fun t152 => (if t152 = true then (tremaref02_Class.j1 k a0 t152) else ((tremaref02_in.f a0 842 844).bind fun t153 => (if t153 = true then (tremaref02_Class.j0 k a0 true) else ((tremaref02_in.f a0 848 850).bind fun t154 => (tremaref02_Class.j0 k a0 t154)))))))))
theorem tremaref02_Class.mono_l : ∀ k, (∀ y0 y1, LeO (tremaref02_Class.j1 k y0 y1) (tremaref02_Class.j1 (k + 1) y0 y1)) ∧ (∀ y0 y1, LeO (tremaref02_Class.j2 k y0 y1) (tremaref02_Class.j2 (k + 1) y0 y1)) ∧ (∀ y0 y1, LeO (tremaref02_Class.j4 k y0 y1) (tremaref02_Class.j4 (k + 1) y0 y1)) ∧ (∀ y0 y1, LeO (tremaref02_Class.j5 k y0 y1) (tremaref02_Class.j5 (k + 1) y0 y1)) ∧ (∀ y0 y1, LeO (tremaref02_Class.j3 k y0 y1) (tremaref02_Class.j3 (k + 1) y0 y1)) ∧ (∀ y0 y1, LeO (tremaref02_Class.j0 k y0 y1) (tremaref02_Class.j0 (k + 1) y0 y1))
 | 0 => ⟨fun _ _ r h => by simp [tremaref02_Class.j1] at h, fun _ _ r h => by simp [tremaref02_Class.j2] at h, fun _ _ r h => by simp [tremaref02_Class.j4] at h, fun _ _ r h => by simp [tremaref02_Class.j5] at h, fun _ _ r h => by simp [tremaref02_Class.j3] at h, fun _ _ r h => by simp [tremaref02_Class.j0] at h⟩
 | k + 1 => by
  obtain ⟨ih0, ih1, ih2, ih3, ih4, ih5⟩ := tremaref02_Class.mono_l k
  refine ⟨?_, ?_, ?_, ?_, ?_, ?_⟩
  ·intro y0 y1
   unfold tremaref02_Class.j1
   repeat' first
   | (with_reducible exact ih0 _ _)
   | (with_reducible exact ih1 _ _)
   | (with_reducible exact ih2 _ _)
   | (with_reducible exact ih3 _ _)
   | (with_reducible exact ih4 _ _)
   | (with_reducible exact ih5 _ _)
   | (with_reducible exact LeO.refl _)
   | (with_reducible exact LeO.none _)
   | (with_reducible refine LeO.ite ?_ ?_)
   | (with_reducible refine LeO.bind ?_ (fun _ => ?_))
   | exact ih0 _ _
   | exact ih1 _ _
   | exact ih2 _ _
   | exact ih3 _ _
   | exact ih4 _ _
   | exact ih5 _ _
   | exact LeO.none _
   | refine LeO.ite ?_ ?_
   | refine LeO.bind ?_ (fun _ => ?_)
  ·intro y0 y1
   unfold tremaref02_Class.j2
   repeat' first
   | (with_reducible exact ih0 _ _)
   | (with_reducible exact ih1 _ _)
   | (with_reducible exact ih2 _ _)
   | (with_reducible exact ih3 _ _)
   | (with_reducible exact ih4 _ _)
   | (with_reducible exact ih5 _ _)
   | (with_reducible exact LeO.refl _)
   | (with_reducible exact LeO.none _)
   | (with_reducible refine LeO.ite ?_ ?_)
   | (with_reducible refine LeO.bind ?_ (fun _ => ?_))
   | exact ih0 _ _
   | exact ih1 _ _
   | exact ih2 _ _
   | exact ih3 _ _
   | exact ih4 _ _
   | exact ih5 _ _
   | exact LeO.none _
   | refine LeO.ite ?_ ?_
   | refine LeO.bind ?_ (fun _ => ?_)
  ·intro y0 y1
   unfold tremaref02_Class.j4
   repeat' first
   | (with_reducible exact ih0 _ _)
   | (with_reducible exact ih1 _ _)
   | (with_reducible exact ih2 _ _)
   | (with_reducible exact ih3 _ _)
   | (with_reducible exact ih4 _ _)
   | (with_reducible exact ih5 _ _)
   | (with_reducible exact LeO.refl _)
   | (with_reducible exact LeO.none _)
   | (with_reducible refine LeO.ite ?_ ?_)
   | (with_reducible refine LeO.bind ?_ (fun _ => ?_))
   | exact ih0 _ _
   | exact ih1 _ _
   | exact ih2 _ _
   | exact ih3 _ _
   | exact ih4 _ _
   | exact ih5 _ _
   | exact LeO.none _
   | refine LeO.ite ?_ ?_
   | refine LeO.bind ?_ (fun _ => ?_)
  ·intro y0 y1
   unfold tremaref02_Class.j5
   repeat' first
   | (with_reducible exact ih0 _ _)
   | (with_reducible exact ih1 _ _)
   | (with_reducible exact ih2 _ _)
   | (with_reducible exact ih3 _ _)
   | (with_reducible exact ih4 _ _)
   | (with_reducible exact ih5 _ _)
   | (with_reducible exact LeO.refl _)
   | (with_reducible exact LeO.none _)
   | (with_reducible refine LeO.ite ?_ ?_)
   | (with_reducible refine LeO.bind ?_ (fun _ => ?_))
   | exact ih0 _ _
   | exact ih1 _ _
   | exact ih2 _ _
   | exact ih3 _ _
   | exact ih4 _ _
   | exact ih5 _ _
   | exact LeO.none _
   | refine LeO.ite ?_ ?_
   | refine LeO.bind ?_ (fun _ => ?_)
  ·intro y0 y1
   unfold tremaref02_Class.j3
   repeat' first
   | (with_reducible exact ih0 _ _)
   | (with_reducible exact ih1 _ _)
   | (with_reducible exact ih2 _ _)
   | (with_reducible exact ih3 _ _)
   | (with_reducible exact ih4 _ _)
   | (with_reducible exact ih5 _ _)
   | (with_reducible exact LeO.refl _)
   | (with_reducible exact LeO.none _)
   | (with_reducible refine LeO.ite ?_ ?_)
   | (with_reducible refine LeO.bind ?_ (fun _ => ?_))
   | exact ih0 _ _
   | exact ih1 _ _
   | exact ih2 _ _
   | exact ih3 _ _
   | exact ih4 _ _
   | exact ih5 _ _
   | exact LeO.none _
   | refine LeO.ite ?_ ?_
   | refine LeO.bind ?_ (fun _ => ?_)
  ·intro y0 y1
   unfold tremaref02_Class.j0
   repeat' first
   | (with_reducible exact ih0 _ _)
   | (with_reducible exact ih1 _ _)
   | (with_reducible exact ih2 _ _)
   | (with_reducible exact ih3 _ _)
   | (with_reducible exact ih4 _ _)
   | (with_reducible exact ih5 _ _)
   | (with_reducible exact LeO.refl _)
   | (with_reducible exact LeO.none _)
   | (with_reducible refine LeO.ite ?_ ?_)
   | (with_reducible refine LeO.bind ?_ (fun _ => ?_))
   | exact ih0 _ _
   | exact ih1 _ _
   | exact ih2 _ _
   | exact ih3 _ _
   | exact ih4 _ _
   | exact ih5 _ _
   | exact LeO.none _
   | refine LeO.ite ?_ ?_
   | refine LeO.bind ?_ (fun _ => ?_)
theorem tremaref02_Class.mono : ∀ a0 k, LeO (tremaref02_Class.f k a0) (tremaref02_Class.f (k + 1) a0) := by
 intro a0 k
 obtain ⟨ih0, ih1, ih2, ih3, ih4, ih5⟩ := tremaref02_Class.mono_l k
 unfold tremaref02_Class.f
 repeat' first
   | (with_reducible exact ih0 _ _)
   | (with_reducible exact ih1 _ _)
   | (with_reducible exact ih2 _ _)
   | (with_reducible exact ih3 _ _)
   | (with_reducible exact ih4 _ _)
   | (with_reducible exact ih5 _ _)
   | (with_reducible exact LeO.refl _)
   | (with_reducible exact LeO.none _)
   | (with_reducible refine LeO.ite ?_ ?_)
   | (with_reducible refine LeO.bind ?_ (fun _ => ?_))
   | exact ih0 _ _
   | exact ih1 _ _
   | exact ih2 _ _
   | exact ih3 _ _
   | exact ih4 _ _
   | exact ih5 _ _
   | exact LeO.none _
   | refine LeO.ite ?_ ?_
   | refine LeO.bind ?_ (fun _ => ?_)
set_option maxHeartbeats 8000000 in
set_option maxRecDepth 100000 in
theorem tremaref02_Class.calls (k : Nat) (a0 : Int) (r : Int) (w : World) (h : tremaref02_Class.f k a0 = some r) :
  Calls Tryd.prog 78 #[.int .i32 a0] w fun e w' => e = .returned (.int .i64 r) ∧ Drawn0 w w' := by
 have H : ((tremaref02_in.f a0 768 788).bind fun t150 => (if t150 = true then (tremaref02_Class.j1 k a0 t150) else ((tremaref02_in.f a0 829 836).bind fun t151 => (if t151 = true then (tremaref02_Class.j1 k a0 t151) else ((tremaref02_in.f a0 838 838).bind fun t152 => (if t152 = true then (tremaref02_Class.j1 k a0 t152) else ((tremaref02_in.f a0 842 844).bind fun t153 => (if t153 = true then (tremaref02_Class.j0 k a0 true) else ((tremaref02_in.f a0 848 850).bind fun t154 => (tremaref02_Class.j0 k a0 t154)))))))))) = some r := h
 clear h
 replace H := Option.bind_eq_some_iff.mp H
 obtain ⟨t150, A20, H⟩ := H
 replace H : (if t150 = true then (tremaref02_Class.j1 k a0 t150) else ((tremaref02_in.f a0 829 836).bind fun t151 => (if t151 = true then (tremaref02_Class.j1 k a0 t151) else ((tremaref02_in.f a0 838 838).bind fun t152 => (if t152 = true then (tremaref02_Class.j1 k a0 t152) else ((tremaref02_in.f a0 842 844).bind fun t153 => (if t153 = true then (tremaref02_Class.j0 k a0 true) else ((tremaref02_in.f a0 848 850).bind fun t154 => (tremaref02_Class.j0 k a0 t154))))))))) = some r := H
 have A2 := Aside0.mk A20
 clear A20
 have HC3 := Aside0.mk H
 clear H
 go_enter Tryd.func78, Tryd.ntmps78
 go_upto_if 3 with (first | ((with_reducible refine gate_callee (f := 88) rfl ?_); refine goesL_ (some 5) rfl rfl Tryd.func88 (by kernel_rfl) rfl #[.int .i32 a0, .int .i32 768, .int .i32 788] rfl (by (try simp only [List.map_toArray, List.map_cons, List.map_nil]); first | done | rfl | (simp only [List.length_drop, List.length_take]; rfl)) ?_; (with_reducible refine (tremaref02_in.calls a0 768 788 t150 _ A2.out).mono ?_); rintro e w' ⟨rfl, ⟨nd, rfl⟩⟩; refine ⟨_, rfl, ?_⟩))
 (try simp only [Act.put, List.setIfInBounds_toArray, List.set_cons_zero, List.set_cons_succ])
 go_cut [3] (fun v3 wc => ∃ (kq : Nat) (x3_2 : Bool), v3 = .bool x3_2 ∧ Aside0 (tremaref02_Class.j1 kq a0 x3_2 = some r) ∧ Aside0 (kq ≤ k) ∧ Drawn0 w wc)
 case first =>
  have H := HC3.out
  clear HC3
  by_cases c4 : t150 = true
  ·subst c4
   have H1 : (tremaref02_Class.j1 k a0 true) = some r := by rw [if_pos rfl] at H; exact H
   clear H
   have H := H1
   clear H1
   have H' := Aside0.mk H
   clear H
   go_wp2
   go_meet
   case rel => exact ⟨_, (true), (by first | rfl | (simp; done) | (simp [*]; done)), H', ⟨by first | omega | exact Nat.le_refl _⟩, by repeat (first | exact Drawn0.refl _ | apply Drawn0.step)⟩
  ·replace c4 := Bool.eq_false_iff.mpr c4
   subst c4
   have H1 : ((tremaref02_in.f a0 829 836).bind fun t151 => (if t151 = true then (tremaref02_Class.j1 k a0 t151) else ((tremaref02_in.f a0 838 838).bind fun t152 => (if t152 = true then (tremaref02_Class.j1 k a0 t152) else ((tremaref02_in.f a0 842 844).bind fun t153 => (if t153 = true then (tremaref02_Class.j0 k a0 true) else ((tremaref02_in.f a0 848 850).bind fun t154 => (tremaref02_Class.j0 k a0 t154)))))))) = some r := by rw [if_neg (show ¬ (false = true) by decide)] at H; exact H
   clear H
   have H := H1
   clear H1
   replace H := Option.bind_eq_some_iff.mp H
   obtain ⟨t151, A50, H⟩ := H
   replace H : (if t151 = true then (tremaref02_Class.j1 k a0 t151) else ((tremaref02_in.f a0 838 838).bind fun t152 => (if t152 = true then (tremaref02_Class.j1 k a0 t152) else ((tremaref02_in.f a0 842 844).bind fun t153 => (if t153 = true then (tremaref02_Class.j0 k a0 true) else ((tremaref02_in.f a0 848 850).bind fun t154 => (tremaref02_Class.j0 k a0 t154))))))) = some r := H
   have A5 := Aside0.mk A50
   clear A50
   by_cases c6 : t151 = true
   ·subst c6
    have H1 : (tremaref02_Class.j1 k a0 true) = some r := by rw [if_pos rfl] at H; exact H
    clear H
    have H := H1
    clear H1
    have H' := Aside0.mk H
    clear H
    go_wp2_with (first | ((with_reducible refine gate_callee (f := 88) rfl ?_); refine goesL_ (some 7) rfl rfl Tryd.func88 (by kernel_rfl) rfl #[.int .i32 a0, .int .i32 829, .int .i32 836] rfl (by (try simp only [List.map_toArray, List.map_cons, List.map_nil]); first | done | rfl | (simp only [List.length_drop, List.length_take]; rfl)) ?_; (with_reducible refine (tremaref02_in.calls a0 829 836 true _ A5.out).mono ?_); rintro e w' ⟨rfl, ⟨nd, rfl⟩⟩; refine ⟨_, rfl, ?_⟩))
    go_meet
    case rel => exact ⟨_, (true), (by first | rfl | (simp; done) | (simp [*]; done)), H', ⟨by first | omega | exact Nat.le_refl _⟩, by repeat (first | exact Drawn0.refl _ | apply Drawn0.step)⟩
   ·replace c6 := Bool.eq_false_iff.mpr c6
    subst c6
    have H1 : ((tremaref02_in.f a0 838 838).bind fun t152 => (if t152 = true then (tremaref02_Class.j1 k a0 t152) else ((tremaref02_in.f a0 842 844).bind fun t153 => (if t153 = true then (tremaref02_Class.j0 k a0 true) else ((tremaref02_in.f a0 848 850).bind fun t154 => (tremaref02_Class.j0 k a0 t154)))))) = some r := by rw [if_neg (show ¬ (false = true) by decide)] at H; exact H
    clear H
    have H := H1
    clear H1
    replace H := Option.bind_eq_some_iff.mp H
    obtain ⟨t152, A70, H⟩ := H
    replace H : (if t152 = true then (tremaref02_Class.j1 k a0 t152) else ((tremaref02_in.f a0 842 844).bind fun t153 => (if t153 = true then (tremaref02_Class.j0 k a0 true) else ((tremaref02_in.f a0 848 850).bind fun t154 => (tremaref02_Class.j0 k a0 t154))))) = some r := H
    have A7 := Aside0.mk A70
    clear A70
    by_cases c8 : t152 = true
    ·subst c8
     have H1 : (tremaref02_Class.j1 k a0 true) = some r := by rw [if_pos rfl] at H; exact H
     clear H
     have H := H1
     clear H1
     have H' := Aside0.mk H
     clear H
     go_wp2_with (first | ((with_reducible refine gate_callee (f := 88) rfl ?_); refine goesL_ (some 7) rfl rfl Tryd.func88 (by kernel_rfl) rfl #[.int .i32 a0, .int .i32 829, .int .i32 836] rfl (by (try simp only [List.map_toArray, List.map_cons, List.map_nil]); first | done | rfl | (simp only [List.length_drop, List.length_take]; rfl)) ?_; (with_reducible refine (tremaref02_in.calls a0 829 836 false _ A5.out).mono ?_); rintro e w' ⟨rfl, ⟨nd, rfl⟩⟩; refine ⟨_, rfl, ?_⟩) | ((with_reducible refine gate_callee (f := 88) rfl ?_); refine goesL_ (some 9) rfl rfl Tryd.func88 (by kernel_rfl) rfl #[.int .i32 a0, .int .i32 838, .int .i32 838] rfl (by (try simp only [List.map_toArray, List.map_cons, List.map_nil]); first | done | rfl | (simp only [List.length_drop, List.length_take]; rfl)) ?_; (with_reducible refine (tremaref02_in.calls a0 838 838 true _ A7.out).mono ?_); rintro e w' ⟨rfl, ⟨nd, rfl⟩⟩; refine ⟨_, rfl, ?_⟩))
     go_meet
     case rel => exact ⟨_, (true), (by first | rfl | (simp; done) | (simp [*]; done)), H', ⟨by first | omega | exact Nat.le_refl _⟩, by repeat (first | exact Drawn0.refl _ | apply Drawn0.step)⟩
    ·replace c8 := Bool.eq_false_iff.mpr c8
     subst c8
     have H1 : ((tremaref02_in.f a0 842 844).bind fun t153 => (if t153 = true then (tremaref02_Class.j0 k a0 true) else ((tremaref02_in.f a0 848 850).bind fun t154 => (tremaref02_Class.j0 k a0 t154)))) = some r := by rw [if_neg (show ¬ (false = true) by decide)] at H; exact H
     clear H
     have H := H1
     clear H1
     have HC9 := Aside0.mk H
     clear H
     go_upto_region 4 with (first | ((with_reducible refine gate_callee (f := 88) rfl ?_); refine goesL_ (some 7) rfl rfl Tryd.func88 (by kernel_rfl) rfl #[.int .i32 a0, .int .i32 829, .int .i32 836] rfl (by (try simp only [List.map_toArray, List.map_cons, List.map_nil]); first | done | rfl | (simp only [List.length_drop, List.length_take]; rfl)) ?_; (with_reducible refine (tremaref02_in.calls a0 829 836 false _ A5.out).mono ?_); rintro e w' ⟨rfl, ⟨nd, rfl⟩⟩; refine ⟨_, rfl, ?_⟩) | ((with_reducible refine gate_callee (f := 88) rfl ?_); refine goesL_ (some 9) rfl rfl Tryd.func88 (by kernel_rfl) rfl #[.int .i32 a0, .int .i32 838, .int .i32 838] rfl (by (try simp only [List.map_toArray, List.map_cons, List.map_nil]); first | done | rfl | (simp only [List.length_drop, List.length_take]; rfl)) ?_; (with_reducible refine (tremaref02_in.calls a0 838 838 false _ A7.out).mono ?_); rintro e w' ⟨rfl, ⟨nd, rfl⟩⟩; refine ⟨_, rfl, ?_⟩))
     (try simp only [Act.put, List.setIfInBounds_toArray, List.set_cons_zero, List.set_cons_succ])
     go_cut [3] (fun v3 wc => ∃ (kq : Nat) (x3_8 : Bool), v3 = .bool x3_8 ∧ Aside0 (tremaref02_Class.j0 kq a0 x3_8 = some r) ∧ Aside0 (kq ≤ k) ∧ Drawn0 w wc)
     case first =>
      have H := HC9.out
      clear HC9
      replace H := Option.bind_eq_some_iff.mp H
      obtain ⟨t153, A100, H⟩ := H
      replace H : (if t153 = true then (tremaref02_Class.j0 k a0 true) else ((tremaref02_in.f a0 848 850).bind fun t154 => (tremaref02_Class.j0 k a0 t154))) = some r := H
      have A10 := Aside0.mk A100
      clear A100
      by_cases c11 : t153 = true
      ·subst c11
       have H1 : (tremaref02_Class.j0 k a0 true) = some r := by rw [if_pos rfl] at H; exact H
       clear H
       have H := H1
       clear H1
       have H' := Aside0.mk H
       clear H
       go_wp2_with (first | ((with_reducible refine gate_callee (f := 88) rfl ?_); refine goesL_ (some 11) rfl rfl Tryd.func88 (by kernel_rfl) rfl #[.int .i32 a0, .int .i32 842, .int .i32 844] rfl (by (try simp only [List.map_toArray, List.map_cons, List.map_nil]); first | done | rfl | (simp only [List.length_drop, List.length_take]; rfl)) ?_; (with_reducible refine (tremaref02_in.calls a0 842 844 true _ A10.out).mono ?_); rintro e w' ⟨rfl, ⟨nd, rfl⟩⟩; refine ⟨_, rfl, ?_⟩))
       go_meet
       case rel => exact ⟨_, (true), (by first | rfl | (simp; done) | (simp [*]; done)), H', ⟨by first | omega | exact Nat.le_refl _⟩, by repeat (first | exact Drawn0.refl _ | apply Drawn0.step)⟩
      ·replace c11 := Bool.eq_false_iff.mpr c11
       subst c11
       have H1 : ((tremaref02_in.f a0 848 850).bind fun t154 => (tremaref02_Class.j0 k a0 t154)) = some r := by rw [if_neg (show ¬ (false = true) by decide)] at H; exact H
       clear H
       have H := H1
       clear H1
       replace H := Option.bind_eq_some_iff.mp H
       obtain ⟨t154, A120, H⟩ := H
       replace H : (tremaref02_Class.j0 k a0 t154) = some r := H
       have A12 := Aside0.mk A120
       clear A120
       have H' := Aside0.mk H
       clear H
       go_wp2_with (first | ((with_reducible refine gate_callee (f := 88) rfl ?_); refine goesL_ (some 11) rfl rfl Tryd.func88 (by kernel_rfl) rfl #[.int .i32 a0, .int .i32 842, .int .i32 844] rfl (by (try simp only [List.map_toArray, List.map_cons, List.map_nil]); first | done | rfl | (simp only [List.length_drop, List.length_take]; rfl)) ?_; (with_reducible refine (tremaref02_in.calls a0 842 844 false _ A10.out).mono ?_); rintro e w' ⟨rfl, ⟨nd, rfl⟩⟩; refine ⟨_, rfl, ?_⟩) | (go_at_call 88; (with_reducible refine (tremaref02_in.calls a0 848 850 t154 _ A12.out).mono ?_); rintro e w' ⟨rfl, ⟨nd, rfl⟩⟩))
       go_meet
       case rel => exact ⟨_, (t154), (by first | rfl | (simp; done) | (simp [*]; done)), H', ⟨by first | omega | exact Nat.le_refl _⟩, by repeat (first | exact Drawn0.refl _ | apply Drawn0.step)⟩
     case rest =>
      clear HC9
      try clear c1
      try clear p2
      try clear c4
      try clear c6
      try clear c7
      try clear c8
      try clear c11
      obtain ⟨kq, x3_8, rfl, HA, HJ8, ⟨mc8, rfl⟩⟩ := hcut
      cases kq with
      | zero => exact absurd HA.out (by simp [tremaref02_Class.j0])
      | succ kj8 =>
       have H := HA.out
       clear HA
       simp only [tremaref02_Class.j0] at H
       by_cases c13 : x3_8 = true
       ·subst c13
        have H1 : (tremaref02_Class.j1 kj8 a0 true) = some r := by rw [if_pos rfl] at H; exact H
        clear H
        have H := H1
        clear H1
        have H' := Aside0.mk H
        clear H
        go_wp2
        go_meet
        case rel => exact ⟨_, (true), (by first | rfl | (simp; done) | (simp [*]; done)), H', ⟨by have := HJ8.out; first | omega | exact Nat.le_refl _⟩, by repeat (first | exact Drawn0.refl _ | apply Drawn0.step)⟩
       ·replace c13 := Bool.eq_false_iff.mpr c13
        subst c13
        have H1 : ((tremaref02_in.f a0 855 855).bind fun t155 => (if t155 = true then (tremaref02_Class.j1 kj8 a0 t155) else ((tremaref02_in.f a0 8400 8401).bind fun t156 => (tremaref02_Class.j1 kj8 a0 t156)))) = some r := by rw [if_neg (show ¬ (false = true) by decide)] at H; exact H
        clear H
        have H := H1
        clear H1
        replace H := Option.bind_eq_some_iff.mp H
        obtain ⟨t155, A140, H⟩ := H
        replace H : (if t155 = true then (tremaref02_Class.j1 kj8 a0 t155) else ((tremaref02_in.f a0 8400 8401).bind fun t156 => (tremaref02_Class.j1 kj8 a0 t156))) = some r := H
        have A14 := Aside0.mk A140
        clear A140
        by_cases c15 : t155 = true
        ·subst c15
         have H1 : (tremaref02_Class.j1 kj8 a0 true) = some r := by rw [if_pos rfl] at H; exact H
         clear H
         have H := H1
         clear H1
         have H' := Aside0.mk H
         clear H
         go_wp2_with (first | ((with_reducible refine gate_callee (f := 88) rfl ?_); refine goesL_ (some 17) rfl rfl Tryd.func88 (by kernel_rfl) rfl #[.int .i32 a0, .int .i32 855, .int .i32 855] rfl (by (try simp only [List.map_toArray, List.map_cons, List.map_nil]); first | done | rfl | (simp only [List.length_drop, List.length_take]; rfl)) ?_; (with_reducible refine (tremaref02_in.calls a0 855 855 true _ A14.out).mono ?_); rintro e w' ⟨rfl, ⟨nd, rfl⟩⟩; refine ⟨_, rfl, ?_⟩))
         go_meet
         case rel => exact ⟨_, (true), (by first | rfl | (simp; done) | (simp [*]; done)), H', ⟨by have := HJ8.out; first | omega | exact Nat.le_refl _⟩, by repeat (first | exact Drawn0.refl _ | apply Drawn0.step)⟩
        ·replace c15 := Bool.eq_false_iff.mpr c15
         subst c15
         have H1 : ((tremaref02_in.f a0 8400 8401).bind fun t156 => (tremaref02_Class.j1 kj8 a0 t156)) = some r := by rw [if_neg (show ¬ (false = true) by decide)] at H; exact H
         clear H
         have H := H1
         clear H1
         replace H := Option.bind_eq_some_iff.mp H
         obtain ⟨t156, A160, H⟩ := H
         replace H : (tremaref02_Class.j1 kj8 a0 t156) = some r := H
         have A16 := Aside0.mk A160
         clear A160
         have H' := Aside0.mk H
         clear H
         go_wp2_with (first | ((with_reducible refine gate_callee (f := 88) rfl ?_); refine goesL_ (some 17) rfl rfl Tryd.func88 (by kernel_rfl) rfl #[.int .i32 a0, .int .i32 855, .int .i32 855] rfl (by (try simp only [List.map_toArray, List.map_cons, List.map_nil]); first | done | rfl | (simp only [List.length_drop, List.length_take]; rfl)) ?_; (with_reducible refine (tremaref02_in.calls a0 855 855 false _ A14.out).mono ?_); rintro e w' ⟨rfl, ⟨nd, rfl⟩⟩; refine ⟨_, rfl, ?_⟩) | ((with_reducible refine gate_callee (f := 88) rfl ?_); refine goesL_ (some 19) rfl rfl Tryd.func88 (by kernel_rfl) rfl #[.int .i32 a0, .int .i32 8400, .int .i32 8401] rfl (by (try simp only [List.map_toArray, List.map_cons, List.map_nil]); first | done | rfl | (simp only [List.length_drop, List.length_take]; rfl)) ?_; (with_reducible refine (tremaref02_in.calls a0 8400 8401 t156 _ A16.out).mono ?_); rintro e w' ⟨rfl, ⟨nd, rfl⟩⟩; refine ⟨_, rfl, ?_⟩))
         go_meet
         case rel => exact ⟨_, (t156), (by first | rfl | (simp; done) | (simp [*]; done)), H', ⟨by have := HJ8.out; first | omega | exact Nat.le_refl _⟩, by repeat (first | exact Drawn0.refl _ | apply Drawn0.step)⟩
 case rest =>
  clear HC3
  try clear c1
  try clear p2
  try clear c4
  try clear c6
  try clear c7
  try clear c8
  try clear c11
  try clear c13
  try clear c15
  try clear p2
  obtain ⟨kq, x3_2, rfl, HA, HJ2, ⟨mc2, rfl⟩⟩ := hcut
  cases kq with
  | zero => exact absurd HA.out (by simp [tremaref02_Class.j1])
  | succ kj2 =>
   have H := HA.out
   clear HA
   simp only [tremaref02_Class.j1] at H
   by_cases c17 : x3_2 = true
   ·subst c17
    have H1 : (some 230) = some r := by rw [if_pos rfl] at H; exact H
    clear H
    have H := H1
    clear H1
    obtain rfl := Option.some.inj H
    go_wp2
    go_ret
    exact ⟨by first | rfl | (simp; done) | (simp [*]; done), by repeat (first | exact Drawn0.refl _ | apply Drawn0.step)⟩
   ·replace c17 := Bool.eq_false_iff.mpr c17
    subst c17
    have H1 : ((tremaref02_in.f a0 789 789).bind fun t157 => (if t157 = true then (tremaref02_Class.j2 kj2 a0 t157) else ((tremaref02_in.f a0 794 794).bind fun t158 => (tremaref02_Class.j2 kj2 a0 t158)))) = some r := by rw [if_neg (show ¬ (false = true) by decide)] at H; exact H
    clear H
    have H := H1
    clear H1
    replace H := Option.bind_eq_some_iff.mp H
    obtain ⟨t157, A180, H⟩ := H
    replace H : (if t157 = true then (tremaref02_Class.j2 kj2 a0 t157) else ((tremaref02_in.f a0 794 794).bind fun t158 => (tremaref02_Class.j2 kj2 a0 t158))) = some r := H
    have A18 := Aside0.mk A180
    clear A180
    have HC19 := Aside0.mk H
    clear H
    go_upto_if 20 with (first | ((with_reducible refine gate_callee (f := 88) rfl ?_); refine goesL_ (some 22) rfl rfl Tryd.func88 (by kernel_rfl) rfl #[.int .i32 a0, .int .i32 789, .int .i32 789] rfl (by (try simp only [List.map_toArray, List.map_cons, List.map_nil]); first | done | rfl | (simp only [List.length_drop, List.length_take]; rfl)) ?_; (with_reducible refine (tremaref02_in.calls a0 789 789 t157 _ A18.out).mono ?_); rintro e w' ⟨rfl, ⟨nd, rfl⟩⟩; refine ⟨_, rfl, ?_⟩))
    (try simp only [Act.put, List.setIfInBounds_toArray, List.set_cons_zero, List.set_cons_succ])
    go_cut [20] (fun v20 wc => ∃ (kq : Nat) (x20_18 : Bool), v20 = .bool x20_18 ∧ Aside0 (tremaref02_Class.j2 kq a0 x20_18 = some r) ∧ Aside0 (kq ≤ kj2) ∧ Drawn0 w wc)
    case first =>
     have H := HC19.out
     clear HC19
     by_cases c20 : t157 = true
     ·subst c20
      have H1 : (tremaref02_Class.j2 kj2 a0 true) = some r := by rw [if_pos rfl] at H; exact H
      clear H
      have H := H1
      clear H1
      have H' := Aside0.mk H
      clear H
      go_wp2
      go_meet
      case rel => exact ⟨_, (true), (by first | rfl | (simp; done) | (simp [*]; done)), H', ⟨by have := HJ2.out; first | omega | exact Nat.le_refl _⟩, by repeat (first | exact Drawn0.refl _ | apply Drawn0.step)⟩
     ·replace c20 := Bool.eq_false_iff.mpr c20
      subst c20
      have H1 : ((tremaref02_in.f a0 794 794).bind fun t158 => (tremaref02_Class.j2 kj2 a0 t158)) = some r := by rw [if_neg (show ¬ (false = true) by decide)] at H; exact H
      clear H
      have H := H1
      clear H1
      replace H := Option.bind_eq_some_iff.mp H
      obtain ⟨t158, A210, H⟩ := H
      replace H : (tremaref02_Class.j2 kj2 a0 t158) = some r := H
      have A21 := Aside0.mk A210
      clear A210
      have H' := Aside0.mk H
      clear H
      go_wp2_with (first | ((with_reducible refine gate_callee (f := 88) rfl ?_); refine goesL_ (some 24) rfl rfl Tryd.func88 (by kernel_rfl) rfl #[.int .i32 a0, .int .i32 794, .int .i32 794] rfl (by (try simp only [List.map_toArray, List.map_cons, List.map_nil]); first | done | rfl | (simp only [List.length_drop, List.length_take]; rfl)) ?_; (with_reducible refine (tremaref02_in.calls a0 794 794 t158 _ A21.out).mono ?_); rintro e w' ⟨rfl, ⟨nd, rfl⟩⟩; refine ⟨_, rfl, ?_⟩))
      go_meet
      case rel => exact ⟨_, (t158), (by first | rfl | (simp; done) | (simp [*]; done)), H', ⟨by have := HJ2.out; first | omega | exact Nat.le_refl _⟩, by repeat (first | exact Drawn0.refl _ | apply Drawn0.step)⟩
    case rest =>
     clear HC19
     try clear c1
     try clear c2
     try clear p2
     try clear c4
     try clear c6
     try clear c7
     try clear c8
     try clear c11
     try clear c13
     try clear c15
     try clear c17
     try clear c20
     try clear p2
     obtain ⟨kq, x20_18, rfl, HA, HJ18, ⟨mc18, rfl⟩⟩ := hcut
     cases kq with
     | zero => exact absurd HA.out (by simp [tremaref02_Class.j2])
     | succ kj18 =>
      have H := HA.out
      clear HA
      simp only [tremaref02_Class.j2] at H
      by_cases c22 : x20_18 = true
      ·subst c22
       have H1 : (some 232) = some r := by rw [if_pos rfl] at H; exact H
       clear H
       have H := H1
       clear H1
       obtain rfl := Option.some.inj H
       go_wp2
       go_ret
       exact ⟨by first | rfl | (simp; done) | (simp [*]; done), by repeat (first | exact Drawn0.refl _ | apply Drawn0.step)⟩
      ·replace c22 := Bool.eq_false_iff.mpr c22
       subst c22
       have H1 : ((tremaref02_in.f a0 790 793).bind fun t159 => (if t159 = true then (tremaref02_Class.j4 kj18 a0 t159) else ((tremaref02_in.f a0 796 800).bind fun t160 => (if t160 = true then (tremaref02_Class.j4 kj18 a0 t160) else ((tremaref02_in.f a0 803 806).bind fun t161 => (if t161 = true then (tremaref02_Class.j4 kj18 a0 t161) else ((tremaref02_in.f a0 809 819).bind fun t162 => (if t162 = true then (tremaref02_Class.j3 kj18 a0 true) else ((tremaref02_in.f a0 825 828).bind fun t163 => (tremaref02_Class.j3 kj18 a0 t163)))))))))) = some r := by rw [if_neg (show ¬ (false = true) by decide)] at H; exact H
       clear H
       have H := H1
       clear H1
       replace H := Option.bind_eq_some_iff.mp H
       obtain ⟨t159, A230, H⟩ := H
       replace H : (if t159 = true then (tremaref02_Class.j4 kj18 a0 t159) else ((tremaref02_in.f a0 796 800).bind fun t160 => (if t160 = true then (tremaref02_Class.j4 kj18 a0 t160) else ((tremaref02_in.f a0 803 806).bind fun t161 => (if t161 = true then (tremaref02_Class.j4 kj18 a0 t161) else ((tremaref02_in.f a0 809 819).bind fun t162 => (if t162 = true then (tremaref02_Class.j3 kj18 a0 true) else ((tremaref02_in.f a0 825 828).bind fun t163 => (tremaref02_Class.j3 kj18 a0 t163))))))))) = some r := H
       have A23 := Aside0.mk A230
       clear A230
       have HC24 := Aside0.mk H
       clear H
       go_upto_if 25 with (first | ((with_reducible refine gate_callee (f := 88) rfl ?_); refine goesL_ (some 27) rfl rfl Tryd.func88 (by kernel_rfl) rfl #[.int .i32 a0, .int .i32 790, .int .i32 793] rfl (by (try simp only [List.map_toArray, List.map_cons, List.map_nil]); first | done | rfl | (simp only [List.length_drop, List.length_take]; rfl)) ?_; (with_reducible refine (tremaref02_in.calls a0 790 793 t159 _ A23.out).mono ?_); rintro e w' ⟨rfl, ⟨nd, rfl⟩⟩; refine ⟨_, rfl, ?_⟩))
       (try simp only [Act.put, List.setIfInBounds_toArray, List.set_cons_zero, List.set_cons_succ])
       go_cut [25] (fun v25 wc => ∃ (kq : Nat) (x25_23 : Bool), v25 = .bool x25_23 ∧ Aside0 (tremaref02_Class.j4 kq a0 x25_23 = some r) ∧ Aside0 (kq ≤ kj18) ∧ Drawn0 w wc)
       case first =>
        have H := HC24.out
        clear HC24
        by_cases c25 : t159 = true
        ·subst c25
         have H1 : (tremaref02_Class.j4 kj18 a0 true) = some r := by rw [if_pos rfl] at H; exact H
         clear H
         have H := H1
         clear H1
         have H' := Aside0.mk H
         clear H
         go_wp2
         go_meet
         case rel => exact ⟨_, (true), (by first | rfl | (simp; done) | (simp [*]; done)), H', ⟨by have := HJ2.out; have := HJ18.out; first | omega | exact Nat.le_refl _⟩, by repeat (first | exact Drawn0.refl _ | apply Drawn0.step)⟩
        ·replace c25 := Bool.eq_false_iff.mpr c25
         subst c25
         have H1 : ((tremaref02_in.f a0 796 800).bind fun t160 => (if t160 = true then (tremaref02_Class.j4 kj18 a0 t160) else ((tremaref02_in.f a0 803 806).bind fun t161 => (if t161 = true then (tremaref02_Class.j4 kj18 a0 t161) else ((tremaref02_in.f a0 809 819).bind fun t162 => (if t162 = true then (tremaref02_Class.j3 kj18 a0 true) else ((tremaref02_in.f a0 825 828).bind fun t163 => (tremaref02_Class.j3 kj18 a0 t163)))))))) = some r := by rw [if_neg (show ¬ (false = true) by decide)] at H; exact H
         clear H
         have H := H1
         clear H1
         replace H := Option.bind_eq_some_iff.mp H
         obtain ⟨t160, A260, H⟩ := H
         replace H : (if t160 = true then (tremaref02_Class.j4 kj18 a0 t160) else ((tremaref02_in.f a0 803 806).bind fun t161 => (if t161 = true then (tremaref02_Class.j4 kj18 a0 t161) else ((tremaref02_in.f a0 809 819).bind fun t162 => (if t162 = true then (tremaref02_Class.j3 kj18 a0 true) else ((tremaref02_in.f a0 825 828).bind fun t163 => (tremaref02_Class.j3 kj18 a0 t163))))))) = some r := H
         have A26 := Aside0.mk A260
         clear A260
         by_cases c27 : t160 = true
         ·subst c27
          have H1 : (tremaref02_Class.j4 kj18 a0 true) = some r := by rw [if_pos rfl] at H; exact H
          clear H
          have H := H1
          clear H1
          have H' := Aside0.mk H
          clear H
          go_wp2_with (first | ((with_reducible refine gate_callee (f := 88) rfl ?_); refine goesL_ (some 29) rfl rfl Tryd.func88 (by kernel_rfl) rfl #[.int .i32 a0, .int .i32 796, .int .i32 800] rfl (by (try simp only [List.map_toArray, List.map_cons, List.map_nil]); first | done | rfl | (simp only [List.length_drop, List.length_take]; rfl)) ?_; (with_reducible refine (tremaref02_in.calls a0 796 800 true _ A26.out).mono ?_); rintro e w' ⟨rfl, ⟨nd, rfl⟩⟩; refine ⟨_, rfl, ?_⟩))
          go_meet
          case rel => exact ⟨_, (true), (by first | rfl | (simp; done) | (simp [*]; done)), H', ⟨by have := HJ2.out; have := HJ18.out; first | omega | exact Nat.le_refl _⟩, by repeat (first | exact Drawn0.refl _ | apply Drawn0.step)⟩
         ·replace c27 := Bool.eq_false_iff.mpr c27
          subst c27
          have H1 : ((tremaref02_in.f a0 803 806).bind fun t161 => (if t161 = true then (tremaref02_Class.j4 kj18 a0 t161) else ((tremaref02_in.f a0 809 819).bind fun t162 => (if t162 = true then (tremaref02_Class.j3 kj18 a0 true) else ((tremaref02_in.f a0 825 828).bind fun t163 => (tremaref02_Class.j3 kj18 a0 t163)))))) = some r := by rw [if_neg (show ¬ (false = true) by decide)] at H; exact H
          clear H
          have H := H1
          clear H1
          replace H := Option.bind_eq_some_iff.mp H
          obtain ⟨t161, A280, H⟩ := H
          replace H : (if t161 = true then (tremaref02_Class.j4 kj18 a0 t161) else ((tremaref02_in.f a0 809 819).bind fun t162 => (if t162 = true then (tremaref02_Class.j3 kj18 a0 true) else ((tremaref02_in.f a0 825 828).bind fun t163 => (tremaref02_Class.j3 kj18 a0 t163))))) = some r := H
          have A28 := Aside0.mk A280
          clear A280
          by_cases c29 : t161 = true
          ·subst c29
           have H1 : (tremaref02_Class.j4 kj18 a0 true) = some r := by rw [if_pos rfl] at H; exact H
           clear H
           have H := H1
           clear H1
           have H' := Aside0.mk H
           clear H
           go_wp2_with (first | ((with_reducible refine gate_callee (f := 88) rfl ?_); refine goesL_ (some 29) rfl rfl Tryd.func88 (by kernel_rfl) rfl #[.int .i32 a0, .int .i32 796, .int .i32 800] rfl (by (try simp only [List.map_toArray, List.map_cons, List.map_nil]); first | done | rfl | (simp only [List.length_drop, List.length_take]; rfl)) ?_; (with_reducible refine (tremaref02_in.calls a0 796 800 false _ A26.out).mono ?_); rintro e w' ⟨rfl, ⟨nd, rfl⟩⟩; refine ⟨_, rfl, ?_⟩) | ((with_reducible refine gate_callee (f := 88) rfl ?_); refine goesL_ (some 31) rfl rfl Tryd.func88 (by kernel_rfl) rfl #[.int .i32 a0, .int .i32 803, .int .i32 806] rfl (by (try simp only [List.map_toArray, List.map_cons, List.map_nil]); first | done | rfl | (simp only [List.length_drop, List.length_take]; rfl)) ?_; (with_reducible refine (tremaref02_in.calls a0 803 806 true _ A28.out).mono ?_); rintro e w' ⟨rfl, ⟨nd, rfl⟩⟩; refine ⟨_, rfl, ?_⟩))
           go_meet
           case rel => exact ⟨_, (true), (by first | rfl | (simp; done) | (simp [*]; done)), H', ⟨by have := HJ2.out; have := HJ18.out; first | omega | exact Nat.le_refl _⟩, by repeat (first | exact Drawn0.refl _ | apply Drawn0.step)⟩
          ·replace c29 := Bool.eq_false_iff.mpr c29
           subst c29
           have H1 : ((tremaref02_in.f a0 809 819).bind fun t162 => (if t162 = true then (tremaref02_Class.j3 kj18 a0 true) else ((tremaref02_in.f a0 825 828).bind fun t163 => (tremaref02_Class.j3 kj18 a0 t163)))) = some r := by rw [if_neg (show ¬ (false = true) by decide)] at H; exact H
           clear H
           have H := H1
           clear H1
           have HC30 := Aside0.mk H
           clear H
           go_upto_region 14 with (first | ((with_reducible refine gate_callee (f := 88) rfl ?_); refine goesL_ (some 29) rfl rfl Tryd.func88 (by kernel_rfl) rfl #[.int .i32 a0, .int .i32 796, .int .i32 800] rfl (by (try simp only [List.map_toArray, List.map_cons, List.map_nil]); first | done | rfl | (simp only [List.length_drop, List.length_take]; rfl)) ?_; (with_reducible refine (tremaref02_in.calls a0 796 800 false _ A26.out).mono ?_); rintro e w' ⟨rfl, ⟨nd, rfl⟩⟩; refine ⟨_, rfl, ?_⟩) | ((with_reducible refine gate_callee (f := 88) rfl ?_); refine goesL_ (some 31) rfl rfl Tryd.func88 (by kernel_rfl) rfl #[.int .i32 a0, .int .i32 803, .int .i32 806] rfl (by (try simp only [List.map_toArray, List.map_cons, List.map_nil]); first | done | rfl | (simp only [List.length_drop, List.length_take]; rfl)) ?_; (with_reducible refine (tremaref02_in.calls a0 803 806 false _ A28.out).mono ?_); rintro e w' ⟨rfl, ⟨nd, rfl⟩⟩; refine ⟨_, rfl, ?_⟩))
           (try simp only [Act.put, List.setIfInBounds_toArray, List.set_cons_zero, List.set_cons_succ])
           go_cut [25] (fun v25 wc => ∃ (kq : Nat) (x25_29 : Bool), v25 = .bool x25_29 ∧ Aside0 (tremaref02_Class.j3 kq a0 x25_29 = some r) ∧ Aside0 (kq ≤ kj18) ∧ Drawn0 w wc)
           case first =>
            have H := HC30.out
            clear HC30
            replace H := Option.bind_eq_some_iff.mp H
            obtain ⟨t162, A310, H⟩ := H
            replace H : (if t162 = true then (tremaref02_Class.j3 kj18 a0 true) else ((tremaref02_in.f a0 825 828).bind fun t163 => (tremaref02_Class.j3 kj18 a0 t163))) = some r := H
            have A31 := Aside0.mk A310
            clear A310
            by_cases c32 : t162 = true
            ·subst c32
             have H1 : (tremaref02_Class.j3 kj18 a0 true) = some r := by rw [if_pos rfl] at H; exact H
             clear H
             have H := H1
             clear H1
             have H' := Aside0.mk H
             clear H
             go_wp2_with (first | ((with_reducible refine gate_callee (f := 88) rfl ?_); refine goesL_ (some 33) rfl rfl Tryd.func88 (by kernel_rfl) rfl #[.int .i32 a0, .int .i32 809, .int .i32 819] rfl (by (try simp only [List.map_toArray, List.map_cons, List.map_nil]); first | done | rfl | (simp only [List.length_drop, List.length_take]; rfl)) ?_; (with_reducible refine (tremaref02_in.calls a0 809 819 true _ A31.out).mono ?_); rintro e w' ⟨rfl, ⟨nd, rfl⟩⟩; refine ⟨_, rfl, ?_⟩))
             go_meet
             case rel => exact ⟨_, (true), (by first | rfl | (simp; done) | (simp [*]; done)), H', ⟨by have := HJ2.out; have := HJ18.out; first | omega | exact Nat.le_refl _⟩, by repeat (first | exact Drawn0.refl _ | apply Drawn0.step)⟩
            ·replace c32 := Bool.eq_false_iff.mpr c32
             subst c32
             have H1 : ((tremaref02_in.f a0 825 828).bind fun t163 => (tremaref02_Class.j3 kj18 a0 t163)) = some r := by rw [if_neg (show ¬ (false = true) by decide)] at H; exact H
             clear H
             have H := H1
             clear H1
             replace H := Option.bind_eq_some_iff.mp H
             obtain ⟨t163, A330, H⟩ := H
             replace H : (tremaref02_Class.j3 kj18 a0 t163) = some r := H
             have A33 := Aside0.mk A330
             clear A330
             have H' := Aside0.mk H
             clear H
             go_wp2_with (first | ((with_reducible refine gate_callee (f := 88) rfl ?_); refine goesL_ (some 33) rfl rfl Tryd.func88 (by kernel_rfl) rfl #[.int .i32 a0, .int .i32 809, .int .i32 819] rfl (by (try simp only [List.map_toArray, List.map_cons, List.map_nil]); first | done | rfl | (simp only [List.length_drop, List.length_take]; rfl)) ?_; (with_reducible refine (tremaref02_in.calls a0 809 819 false _ A31.out).mono ?_); rintro e w' ⟨rfl, ⟨nd, rfl⟩⟩; refine ⟨_, rfl, ?_⟩) | (go_at_call 88; (with_reducible refine (tremaref02_in.calls a0 825 828 t163 _ A33.out).mono ?_); rintro e w' ⟨rfl, ⟨nd, rfl⟩⟩))
             go_meet
             case rel => exact ⟨_, (t163), (by first | rfl | (simp; done) | (simp [*]; done)), H', ⟨by have := HJ2.out; have := HJ18.out; first | omega | exact Nat.le_refl _⟩, by repeat (first | exact Drawn0.refl _ | apply Drawn0.step)⟩
           case rest =>
            clear HC30
            try clear c1
            try clear c2
            try clear p2
            try clear c3
            try clear c4
            try clear c6
            try clear c7
            try clear c8
            try clear c11
            try clear c13
            try clear c15
            try clear c17
            try clear c18
            try clear c20
            try clear c22
            try clear c25
            try clear c27
            try clear c29
            try clear c32
            try clear p2
            obtain ⟨kq, x25_29, rfl, HA, HJ29, ⟨mc29, rfl⟩⟩ := hcut
            cases kq with
            | zero => exact absurd HA.out (by simp [tremaref02_Class.j3])
            | succ kj29 =>
             have H := HA.out
             clear HA
             simp only [tremaref02_Class.j3] at H
             by_cases c34 : x25_29 = true
             ·subst c34
              have H1 : (tremaref02_Class.j4 kj29 a0 true) = some r := by rw [if_pos rfl] at H; exact H
              clear H
              have H := H1
              clear H1
              have H' := Aside0.mk H
              clear H
              go_wp2
              go_meet
              case rel => exact ⟨_, (true), (by first | rfl | (simp; done) | (simp [*]; done)), H', ⟨by have := HJ2.out; have := HJ18.out; have := HJ29.out; first | omega | exact Nat.le_refl _⟩, by repeat (first | exact Drawn0.refl _ | apply Drawn0.step)⟩
             ·replace c34 := Bool.eq_false_iff.mpr c34
              subst c34
              have H1 : ((tremaref02_in.f a0 839 841).bind fun t164 => (if t164 = true then (tremaref02_Class.j4 kj29 a0 t164) else ((tremaref02_in.f a0 845 846).bind fun t165 => (if t165 = true then (tremaref02_Class.j4 kj29 a0 t165) else ((tremaref02_in.f a0 851 854).bind fun t166 => (tremaref02_Class.j4 kj29 a0 t166)))))) = some r := by rw [if_neg (show ¬ (false = true) by decide)] at H; exact H
              clear H
              have H := H1
              clear H1
              replace H := Option.bind_eq_some_iff.mp H
              obtain ⟨t164, A350, H⟩ := H
              replace H : (if t164 = true then (tremaref02_Class.j4 kj29 a0 t164) else ((tremaref02_in.f a0 845 846).bind fun t165 => (if t165 = true then (tremaref02_Class.j4 kj29 a0 t165) else ((tremaref02_in.f a0 851 854).bind fun t166 => (tremaref02_Class.j4 kj29 a0 t166))))) = some r := H
              have A35 := Aside0.mk A350
              clear A350
              by_cases c36 : t164 = true
              ·subst c36
               have H1 : (tremaref02_Class.j4 kj29 a0 true) = some r := by rw [if_pos rfl] at H; exact H
               clear H
               have H := H1
               clear H1
               have H' := Aside0.mk H
               clear H
               go_wp2_with (first | ((with_reducible refine gate_callee (f := 88) rfl ?_); refine goesL_ (some 39) rfl rfl Tryd.func88 (by kernel_rfl) rfl #[.int .i32 a0, .int .i32 839, .int .i32 841] rfl (by (try simp only [List.map_toArray, List.map_cons, List.map_nil]); first | done | rfl | (simp only [List.length_drop, List.length_take]; rfl)) ?_; (with_reducible refine (tremaref02_in.calls a0 839 841 true _ A35.out).mono ?_); rintro e w' ⟨rfl, ⟨nd, rfl⟩⟩; refine ⟨_, rfl, ?_⟩))
               go_meet
               case rel => exact ⟨_, (true), (by first | rfl | (simp; done) | (simp [*]; done)), H', ⟨by have := HJ2.out; have := HJ18.out; have := HJ29.out; first | omega | exact Nat.le_refl _⟩, by repeat (first | exact Drawn0.refl _ | apply Drawn0.step)⟩
              ·replace c36 := Bool.eq_false_iff.mpr c36
               subst c36
               have H1 : ((tremaref02_in.f a0 845 846).bind fun t165 => (if t165 = true then (tremaref02_Class.j4 kj29 a0 t165) else ((tremaref02_in.f a0 851 854).bind fun t166 => (tremaref02_Class.j4 kj29 a0 t166)))) = some r := by rw [if_neg (show ¬ (false = true) by decide)] at H; exact H
               clear H
               have H := H1
               clear H1
               replace H := Option.bind_eq_some_iff.mp H
               obtain ⟨t165, A370, H⟩ := H
               replace H : (if t165 = true then (tremaref02_Class.j4 kj29 a0 t165) else ((tremaref02_in.f a0 851 854).bind fun t166 => (tremaref02_Class.j4 kj29 a0 t166))) = some r := H
               have A37 := Aside0.mk A370
               clear A370
               by_cases c38 : t165 = true
               ·subst c38
                have H1 : (tremaref02_Class.j4 kj29 a0 true) = some r := by rw [if_pos rfl] at H; exact H
                clear H
                have H := H1
                clear H1
                have H' := Aside0.mk H
                clear H
                go_wp2_with (first | ((with_reducible refine gate_callee (f := 88) rfl ?_); refine goesL_ (some 39) rfl rfl Tryd.func88 (by kernel_rfl) rfl #[.int .i32 a0, .int .i32 839, .int .i32 841] rfl (by (try simp only [List.map_toArray, List.map_cons, List.map_nil]); first | done | rfl | (simp only [List.length_drop, List.length_take]; rfl)) ?_; (with_reducible refine (tremaref02_in.calls a0 839 841 false _ A35.out).mono ?_); rintro e w' ⟨rfl, ⟨nd, rfl⟩⟩; refine ⟨_, rfl, ?_⟩) | ((with_reducible refine gate_callee (f := 88) rfl ?_); refine goesL_ (some 41) rfl rfl Tryd.func88 (by kernel_rfl) rfl #[.int .i32 a0, .int .i32 845, .int .i32 846] rfl (by (try simp only [List.map_toArray, List.map_cons, List.map_nil]); first | done | rfl | (simp only [List.length_drop, List.length_take]; rfl)) ?_; (with_reducible refine (tremaref02_in.calls a0 845 846 true _ A37.out).mono ?_); rintro e w' ⟨rfl, ⟨nd, rfl⟩⟩; refine ⟨_, rfl, ?_⟩))
                go_meet
                case rel => exact ⟨_, (true), (by first | rfl | (simp; done) | (simp [*]; done)), H', ⟨by have := HJ2.out; have := HJ18.out; have := HJ29.out; first | omega | exact Nat.le_refl _⟩, by repeat (first | exact Drawn0.refl _ | apply Drawn0.step)⟩
               ·replace c38 := Bool.eq_false_iff.mpr c38
                subst c38
                have H1 : ((tremaref02_in.f a0 851 854).bind fun t166 => (tremaref02_Class.j4 kj29 a0 t166)) = some r := by rw [if_neg (show ¬ (false = true) by decide)] at H; exact H
                clear H
                have H := H1
                clear H1
                replace H := Option.bind_eq_some_iff.mp H
                obtain ⟨t166, A390, H⟩ := H
                replace H : (tremaref02_Class.j4 kj29 a0 t166) = some r := H
                have A39 := Aside0.mk A390
                clear A390
                have H' := Aside0.mk H
                clear H
                go_wp2_with (first | ((with_reducible refine gate_callee (f := 88) rfl ?_); refine goesL_ (some 39) rfl rfl Tryd.func88 (by kernel_rfl) rfl #[.int .i32 a0, .int .i32 839, .int .i32 841] rfl (by (try simp only [List.map_toArray, List.map_cons, List.map_nil]); first | done | rfl | (simp only [List.length_drop, List.length_take]; rfl)) ?_; (with_reducible refine (tremaref02_in.calls a0 839 841 false _ A35.out).mono ?_); rintro e w' ⟨rfl, ⟨nd, rfl⟩⟩; refine ⟨_, rfl, ?_⟩) | ((with_reducible refine gate_callee (f := 88) rfl ?_); refine goesL_ (some 41) rfl rfl Tryd.func88 (by kernel_rfl) rfl #[.int .i32 a0, .int .i32 845, .int .i32 846] rfl (by (try simp only [List.map_toArray, List.map_cons, List.map_nil]); first | done | rfl | (simp only [List.length_drop, List.length_take]; rfl)) ?_; (with_reducible refine (tremaref02_in.calls a0 845 846 false _ A37.out).mono ?_); rintro e w' ⟨rfl, ⟨nd, rfl⟩⟩; refine ⟨_, rfl, ?_⟩) | ((with_reducible refine gate_callee (f := 88) rfl ?_); refine goesL_ (some 43) rfl rfl Tryd.func88 (by kernel_rfl) rfl #[.int .i32 a0, .int .i32 851, .int .i32 854] rfl (by (try simp only [List.map_toArray, List.map_cons, List.map_nil]); first | done | rfl | (simp only [List.length_drop, List.length_take]; rfl)) ?_; (with_reducible refine (tremaref02_in.calls a0 851 854 t166 _ A39.out).mono ?_); rintro e w' ⟨rfl, ⟨nd, rfl⟩⟩; refine ⟨_, rfl, ?_⟩))
                go_meet
                case rel => exact ⟨_, (t166), (by first | rfl | (simp; done) | (simp [*]; done)), H', ⟨by have := HJ2.out; have := HJ18.out; have := HJ29.out; first | omega | exact Nat.le_refl _⟩, by repeat (first | exact Drawn0.refl _ | apply Drawn0.step)⟩
       case rest =>
        clear HC24
        try clear c1
        try clear c2
        try clear p2
        try clear c3
        try clear c4
        try clear c6
        try clear c7
        try clear c8
        try clear c11
        try clear c13
        try clear c15
        try clear c17
        try clear c18
        try clear c20
        try clear c22
        try clear c25
        try clear c27
        try clear c29
        try clear c32
        try clear c34
        try clear c36
        try clear c38
        try clear p2
        obtain ⟨kq, x25_23, rfl, HA, HJ23, ⟨mc23, rfl⟩⟩ := hcut
        cases kq with
        | zero => exact absurd HA.out (by simp [tremaref02_Class.j4])
        | succ kj23 =>
         have H := HA.out
         clear HA
         simp only [tremaref02_Class.j4] at H
         by_cases c40 : x25_23 = true
         ·subst c40
          have H1 : (some 220) = some r := by rw [if_pos rfl] at H; exact H
          clear H
          have H := H1
          clear H1
          obtain rfl := Option.some.inj H
          go_wp2
          go_ret
          exact ⟨by first | rfl | (simp; done) | (simp [*]; done), by repeat (first | exact Drawn0.refl _ | apply Drawn0.step)⟩
         ·replace c40 := Bool.eq_false_iff.mpr c40
          subst c40
          have H1 : ((tremaref02_in.f a0 795 795).bind fun t167 => (if t167 = true then (some 216) else ((tremaref02_in.f a0 801 802).bind fun t168 => (if t168 = true then (tremaref02_Class.j5 kj23 a0 t168) else ((tremaref02_in.f a0 807 808).bind fun t169 => (tremaref02_Class.j5 kj23 a0 t169)))))) = some r := by rw [if_neg (show ¬ (false = true) by decide)] at H; exact H
          clear H
          have H := H1
          clear H1
          replace H := Option.bind_eq_some_iff.mp H
          obtain ⟨t167, A410, H⟩ := H
          replace H : (if t167 = true then (some 216) else ((tremaref02_in.f a0 801 802).bind fun t168 => (if t168 = true then (tremaref02_Class.j5 kj23 a0 t168) else ((tremaref02_in.f a0 807 808).bind fun t169 => (tremaref02_Class.j5 kj23 a0 t169))))) = some r := H
          have A41 := Aside0.mk A410
          clear A410
          by_cases c42 : t167 = true
          ·subst c42
           have H1 : (some 216) = some r := by rw [if_pos rfl] at H; exact H
           clear H
           have H := H1
           clear H1
           obtain rfl := Option.some.inj H
           go_wp2_with (first | ((with_reducible refine gate_callee (f := 88) rfl ?_); refine goesL_ (some 46) rfl rfl Tryd.func88 (by kernel_rfl) rfl #[.int .i32 a0, .int .i32 795, .int .i32 795] rfl (by (try simp only [List.map_toArray, List.map_cons, List.map_nil]); first | done | rfl | (simp only [List.length_drop, List.length_take]; rfl)) ?_; (with_reducible refine (tremaref02_in.calls a0 795 795 true _ A41.out).mono ?_); rintro e w' ⟨rfl, ⟨nd, rfl⟩⟩; refine ⟨_, rfl, ?_⟩))
           go_ret
           exact ⟨by first | rfl | (simp; done) | (simp [*]; done), by repeat (first | exact Drawn0.refl _ | apply Drawn0.step)⟩
          ·replace c42 := Bool.eq_false_iff.mpr c42
           subst c42
           have H1 : ((tremaref02_in.f a0 801 802).bind fun t168 => (if t168 = true then (tremaref02_Class.j5 kj23 a0 t168) else ((tremaref02_in.f a0 807 808).bind fun t169 => (tremaref02_Class.j5 kj23 a0 t169)))) = some r := by rw [if_neg (show ¬ (false = true) by decide)] at H; exact H
           clear H
           have H := H1
           clear H1
           replace H := Option.bind_eq_some_iff.mp H
           obtain ⟨t168, A430, H⟩ := H
           replace H : (if t168 = true then (tremaref02_Class.j5 kj23 a0 t168) else ((tremaref02_in.f a0 807 808).bind fun t169 => (tremaref02_Class.j5 kj23 a0 t169))) = some r := H
           have A43 := Aside0.mk A430
           clear A430
           have HC44 := Aside0.mk H
           clear H
           go_upto_if 47 with (first | ((with_reducible refine gate_callee (f := 88) rfl ?_); refine goesL_ (some 46) rfl rfl Tryd.func88 (by kernel_rfl) rfl #[.int .i32 a0, .int .i32 795, .int .i32 795] rfl (by (try simp only [List.map_toArray, List.map_cons, List.map_nil]); first | done | rfl | (simp only [List.length_drop, List.length_take]; rfl)) ?_; (with_reducible refine (tremaref02_in.calls a0 795 795 false _ A41.out).mono ?_); rintro e w' ⟨rfl, ⟨nd, rfl⟩⟩; refine ⟨_, rfl, ?_⟩) | ((with_reducible refine gate_callee (f := 88) rfl ?_); refine goesL_ (some 49) rfl rfl Tryd.func88 (by kernel_rfl) rfl #[.int .i32 a0, .int .i32 801, .int .i32 802] rfl (by (try simp only [List.map_toArray, List.map_cons, List.map_nil]); first | done | rfl | (simp only [List.length_drop, List.length_take]; rfl)) ?_; (with_reducible refine (tremaref02_in.calls a0 801 802 t168 _ A43.out).mono ?_); rintro e w' ⟨rfl, ⟨nd, rfl⟩⟩; refine ⟨_, rfl, ?_⟩))
           (try simp only [Act.put, List.setIfInBounds_toArray, List.set_cons_zero, List.set_cons_succ])
           go_cut [47] (fun v47 wc => ∃ (kq : Nat) (x47_43 : Bool), v47 = .bool x47_43 ∧ Aside0 (tremaref02_Class.j5 kq a0 x47_43 = some r) ∧ Aside0 (kq ≤ kj23) ∧ Drawn0 w wc)
           case first =>
            have H := HC44.out
            clear HC44
            by_cases c45 : t168 = true
            ·subst c45
             have H1 : (tremaref02_Class.j5 kj23 a0 true) = some r := by rw [if_pos rfl] at H; exact H
             clear H
             have H := H1
             clear H1
             have H' := Aside0.mk H
             clear H
             go_wp2
             go_meet
             case rel => exact ⟨_, (true), (by first | rfl | (simp; done) | (simp [*]; done)), H', ⟨by have := HJ2.out; have := HJ18.out; have := HJ23.out; first | omega | exact Nat.le_refl _⟩, by repeat (first | exact Drawn0.refl _ | apply Drawn0.step)⟩
            ·replace c45 := Bool.eq_false_iff.mpr c45
             subst c45
             have H1 : ((tremaref02_in.f a0 807 808).bind fun t169 => (tremaref02_Class.j5 kj23 a0 t169)) = some r := by rw [if_neg (show ¬ (false = true) by decide)] at H; exact H
             clear H
             have H := H1
             clear H1
             replace H := Option.bind_eq_some_iff.mp H
             obtain ⟨t169, A460, H⟩ := H
             replace H : (tremaref02_Class.j5 kj23 a0 t169) = some r := H
             have A46 := Aside0.mk A460
             clear A460
             have H' := Aside0.mk H
             clear H
             go_wp2_with (first | ((with_reducible refine gate_callee (f := 88) rfl ?_); refine goesL_ (some 51) rfl rfl Tryd.func88 (by kernel_rfl) rfl #[.int .i32 a0, .int .i32 807, .int .i32 808] rfl (by (try simp only [List.map_toArray, List.map_cons, List.map_nil]); first | done | rfl | (simp only [List.length_drop, List.length_take]; rfl)) ?_; (with_reducible refine (tremaref02_in.calls a0 807 808 t169 _ A46.out).mono ?_); rintro e w' ⟨rfl, ⟨nd, rfl⟩⟩; refine ⟨_, rfl, ?_⟩))
             go_meet
             case rel => exact ⟨_, (t169), (by first | rfl | (simp; done) | (simp [*]; done)), H', ⟨by have := HJ2.out; have := HJ18.out; have := HJ23.out; first | omega | exact Nat.le_refl _⟩, by repeat (first | exact Drawn0.refl _ | apply Drawn0.step)⟩
           case rest =>
            clear HC44
            try clear c1
            try clear c2
            try clear p2
            try clear c3
            try clear c4
            try clear c6
            try clear c7
            try clear c8
            try clear c11
            try clear c13
            try clear c15
            try clear c17
            try clear c18
            try clear c20
            try clear c22
            try clear c23
            try clear c25
            try clear c27
            try clear c29
            try clear c32
            try clear c34
            try clear c36
            try clear c38
            try clear c40
            try clear c42
            try clear c45
            try clear p2
            obtain ⟨kq, x47_43, rfl, HA, HJ43, ⟨mc43, rfl⟩⟩ := hcut
            cases kq with
            | zero => exact absurd HA.out (by simp [tremaref02_Class.j5])
            | succ kj43 =>
             have H := HA.out
             clear HA
             simp only [tremaref02_Class.j5] at H
             by_cases c47 : x47_43 = true
             ·subst c47
              have H1 : (some 202) = some r := by rw [if_pos rfl] at H; exact H
              clear H
              have H := H1
              clear H1
              obtain rfl := Option.some.inj H
              go_wp2
              go_ret
              exact ⟨by first | rfl | (simp; done) | (simp [*]; done), by repeat (first | exact Drawn0.refl _ | apply Drawn0.step)⟩
             ·replace c47 := Bool.eq_false_iff.mpr c47
              subst c47
              have H1 : ((tremaref02_in.f a0 820 824).bind fun t170 => (if t170 = true then (some 1) else ((tremaref02_in.f a0 837 837).bind fun t171 => (if t171 = true then (some 240) else ((tremaref02_in.f a0 12441 12442).bind fun t172 => (if t172 = true then (some 8) else (some 0))))))) = some r := by rw [if_neg (show ¬ (false = true) by decide)] at H; exact H
              clear H
              have H := H1
              clear H1
              replace H := Option.bind_eq_some_iff.mp H
              obtain ⟨t170, A480, H⟩ := H
              replace H : (if t170 = true then (some 1) else ((tremaref02_in.f a0 837 837).bind fun t171 => (if t171 = true then (some 240) else ((tremaref02_in.f a0 12441 12442).bind fun t172 => (if t172 = true then (some 8) else (some 0)))))) = some r := H
              have A48 := Aside0.mk A480
              clear A480
              by_cases c49 : t170 = true
              ·subst c49
               have H1 : (some 1) = some r := by rw [if_pos rfl] at H; exact H
               clear H
               have H := H1
               clear H1
               obtain rfl := Option.some.inj H
               go_wp2_with (first | ((with_reducible refine gate_callee (f := 88) rfl ?_); refine goesL_ (some 54) rfl rfl Tryd.func88 (by kernel_rfl) rfl #[.int .i32 a0, .int .i32 820, .int .i32 824] rfl (by (try simp only [List.map_toArray, List.map_cons, List.map_nil]); first | done | rfl | (simp only [List.length_drop, List.length_take]; rfl)) ?_; (with_reducible refine (tremaref02_in.calls a0 820 824 true _ A48.out).mono ?_); rintro e w' ⟨rfl, ⟨nd, rfl⟩⟩; refine ⟨_, rfl, ?_⟩))
               go_ret
               exact ⟨by first | rfl | (simp; done) | (simp [*]; done), by repeat (first | exact Drawn0.refl _ | apply Drawn0.step)⟩
              ·replace c49 := Bool.eq_false_iff.mpr c49
               subst c49
               have H1 : ((tremaref02_in.f a0 837 837).bind fun t171 => (if t171 = true then (some 240) else ((tremaref02_in.f a0 12441 12442).bind fun t172 => (if t172 = true then (some 8) else (some 0))))) = some r := by rw [if_neg (show ¬ (false = true) by decide)] at H; exact H
               clear H
               have H := H1
               clear H1
               replace H := Option.bind_eq_some_iff.mp H
               obtain ⟨t171, A500, H⟩ := H
               replace H : (if t171 = true then (some 240) else ((tremaref02_in.f a0 12441 12442).bind fun t172 => (if t172 = true then (some 8) else (some 0)))) = some r := H
               have A50 := Aside0.mk A500
               clear A500
               by_cases c51 : t171 = true
               ·subst c51
                have H1 : (some 240) = some r := by rw [if_pos rfl] at H; exact H
                clear H
                have H := H1
                clear H1
                obtain rfl := Option.some.inj H
                go_wp2_with (first | ((with_reducible refine gate_callee (f := 88) rfl ?_); refine goesL_ (some 54) rfl rfl Tryd.func88 (by kernel_rfl) rfl #[.int .i32 a0, .int .i32 820, .int .i32 824] rfl (by (try simp only [List.map_toArray, List.map_cons, List.map_nil]); first | done | rfl | (simp only [List.length_drop, List.length_take]; rfl)) ?_; (with_reducible refine (tremaref02_in.calls a0 820 824 false _ A48.out).mono ?_); rintro e w' ⟨rfl, ⟨nd, rfl⟩⟩; refine ⟨_, rfl, ?_⟩) | ((with_reducible refine gate_callee (f := 88) rfl ?_); refine goesL_ (some 57) rfl rfl Tryd.func88 (by kernel_rfl) rfl #[.int .i32 a0, .int .i32 837, .int .i32 837] rfl (by (try simp only [List.map_toArray, List.map_cons, List.map_nil]); first | done | rfl | (simp only [List.length_drop, List.length_take]; rfl)) ?_; (with_reducible refine (tremaref02_in.calls a0 837 837 true _ A50.out).mono ?_); rintro e w' ⟨rfl, ⟨nd, rfl⟩⟩; refine ⟨_, rfl, ?_⟩))
                go_ret
                exact ⟨by first | rfl | (simp; done) | (simp [*]; done), by repeat (first | exact Drawn0.refl _ | apply Drawn0.step)⟩
               ·replace c51 := Bool.eq_false_iff.mpr c51
                subst c51
                have H1 : ((tremaref02_in.f a0 12441 12442).bind fun t172 => (if t172 = true then (some 8) else (some 0))) = some r := by rw [if_neg (show ¬ (false = true) by decide)] at H; exact H
                clear H
                have H := H1
                clear H1
                replace H := Option.bind_eq_some_iff.mp H
                obtain ⟨t172, A520, H⟩ := H
                replace H : (if t172 = true then (some 8) else (some 0)) = some r := H
                have A52 := Aside0.mk A520
                clear A520
                by_cases c53 : t172 = true
                ·subst c53
                 have H1 : (some 8) = some r := by rw [if_pos rfl] at H; exact H
                 clear H
                 have H := H1
                 clear H1
                 obtain rfl := Option.some.inj H
                 go_wp2_with (first | ((with_reducible refine gate_callee (f := 88) rfl ?_); refine goesL_ (some 54) rfl rfl Tryd.func88 (by kernel_rfl) rfl #[.int .i32 a0, .int .i32 820, .int .i32 824] rfl (by (try simp only [List.map_toArray, List.map_cons, List.map_nil]); first | done | rfl | (simp only [List.length_drop, List.length_take]; rfl)) ?_; (with_reducible refine (tremaref02_in.calls a0 820 824 false _ A48.out).mono ?_); rintro e w' ⟨rfl, ⟨nd, rfl⟩⟩; refine ⟨_, rfl, ?_⟩) | ((with_reducible refine gate_callee (f := 88) rfl ?_); refine goesL_ (some 57) rfl rfl Tryd.func88 (by kernel_rfl) rfl #[.int .i32 a0, .int .i32 837, .int .i32 837] rfl (by (try simp only [List.map_toArray, List.map_cons, List.map_nil]); first | done | rfl | (simp only [List.length_drop, List.length_take]; rfl)) ?_; (with_reducible refine (tremaref02_in.calls a0 837 837 false _ A50.out).mono ?_); rintro e w' ⟨rfl, ⟨nd, rfl⟩⟩; refine ⟨_, rfl, ?_⟩) | ((with_reducible refine gate_callee (f := 88) rfl ?_); refine goesL_ (some 60) rfl rfl Tryd.func88 (by kernel_rfl) rfl #[.int .i32 a0, .int .i32 12441, .int .i32 12442] rfl (by (try simp only [List.map_toArray, List.map_cons, List.map_nil]); first | done | rfl | (simp only [List.length_drop, List.length_take]; rfl)) ?_; (with_reducible refine (tremaref02_in.calls a0 12441 12442 true _ A52.out).mono ?_); rintro e w' ⟨rfl, ⟨nd, rfl⟩⟩; refine ⟨_, rfl, ?_⟩))
                 go_ret
                 exact ⟨by first | rfl | (simp; done) | (simp [*]; done), by repeat (first | exact Drawn0.refl _ | apply Drawn0.step)⟩
                ·replace c53 := Bool.eq_false_iff.mpr c53
                 subst c53
                 have H1 : (some 0) = some r := by rw [if_neg (show ¬ (false = true) by decide)] at H; exact H
                 clear H
                 have H := H1
                 clear H1
                 obtain rfl := Option.some.inj H
                 go_wp2_with (first | ((with_reducible refine gate_callee (f := 88) rfl ?_); refine goesL_ (some 54) rfl rfl Tryd.func88 (by kernel_rfl) rfl #[.int .i32 a0, .int .i32 820, .int .i32 824] rfl (by (try simp only [List.map_toArray, List.map_cons, List.map_nil]); first | done | rfl | (simp only [List.length_drop, List.length_take]; rfl)) ?_; (with_reducible refine (tremaref02_in.calls a0 820 824 false _ A48.out).mono ?_); rintro e w' ⟨rfl, ⟨nd, rfl⟩⟩; refine ⟨_, rfl, ?_⟩) | ((with_reducible refine gate_callee (f := 88) rfl ?_); refine goesL_ (some 57) rfl rfl Tryd.func88 (by kernel_rfl) rfl #[.int .i32 a0, .int .i32 837, .int .i32 837] rfl (by (try simp only [List.map_toArray, List.map_cons, List.map_nil]); first | done | rfl | (simp only [List.length_drop, List.length_take]; rfl)) ?_; (with_reducible refine (tremaref02_in.calls a0 837 837 false _ A50.out).mono ?_); rintro e w' ⟨rfl, ⟨nd, rfl⟩⟩; refine ⟨_, rfl, ?_⟩) | ((with_reducible refine gate_callee (f := 88) rfl ?_); refine goesL_ (some 60) rfl rfl Tryd.func88 (by kernel_rfl) rfl #[.int .i32 a0, .int .i32 12441, .int .i32 12442] rfl (by (try simp only [List.map_toArray, List.map_cons, List.map_nil]); first | done | rfl | (simp only [List.length_drop, List.length_take]; rfl)) ?_; (with_reducible refine (tremaref02_in.calls a0 12441 12442 false _ A52.out).mono ?_); rintro e w' ⟨rfl, ⟨nd, rfl⟩⟩; refine ⟨_, rfl, ?_⟩))
                 go_ret
                 exact ⟨by first | rfl | (simp; done) | (simp [*]; done), by repeat (first | exact Drawn0.refl _ | apply Drawn0.step)⟩
end Go.Proofs.YthffpkdadffinaaDoor.X
namespace Go.Proofs.YthffpkdadffinaaDoor.X
open Go.RowKit Go.Proofs.YthffpkdadffinaaDoorW.PrintWords Go.Proofs.YthffpkdadffinaaDoorW.PrintLast Go.Proofs.YthffpkdadffinaaDoorW.PrintMore
attribute [local go_sem] max2_int min2_int max_two min_two max_three min_three max_four min_four   
set_option linter.unusedVariables false
set_option linter.unusedSimpArgs false
def tremaref02_Trailing.f (a0 : Int) : Option (Bool) := (tremaref02_in.f a0 4449 4469).bind fun t173 => (if t173 = true then (some true) else ((tremaref02_in.f a0 4520 4546).bind fun t174 => (some t174)))
set_option maxHeartbeats 8000000 in
set_option maxRecDepth 100000 in
theorem tremaref02_Trailing.calls (a0 : Int) (r : Bool) (w : World) (h : tremaref02_Trailing.f a0 = some r) :
  Calls Tryd.prog 79 #[.int .i32 a0] w fun e w' => e = .returned (.bool r) ∧ Drawn0 w w' := by
 have H : ((tremaref02_in.f a0 4449 4469).bind fun t173 => (if t173 = true then (some true) else ((tremaref02_in.f a0 4520 4546).bind fun t174 => (some t174)))) = some r := h
 clear h
 replace H := Option.bind_eq_some_iff.mp H
 obtain ⟨t173, A20, H⟩ := H
 replace H : (if t173 = true then (some true) else ((tremaref02_in.f a0 4520 4546).bind fun t174 => (some t174))) = some r := H
 have A2 := Aside0.mk A20
 clear A20
 by_cases c3 : t173 = true
 ·subst c3
  have H1 : (some true) = some r := by rw [if_pos rfl] at H; exact H
  clear H
  have H := H1
  clear H1
  obtain rfl := Option.some.inj H
  go_enter Tryd.func79, Tryd.ntmps79
  go_wp2_with (first | ((with_reducible refine gate_callee (f := 88) rfl ?_); refine goesL_ (some 4) rfl rfl Tryd.func88 (by kernel_rfl) rfl #[.int .i32 a0, .int .i32 4449, .int .i32 4469] rfl (by (try simp only [List.map_toArray, List.map_cons, List.map_nil]); first | done | rfl | (simp only [List.length_drop, List.length_take]; rfl)) ?_; (with_reducible refine (tremaref02_in.calls a0 4449 4469 true _ A2.out).mono ?_); rintro e w' ⟨rfl, ⟨nd, rfl⟩⟩; refine ⟨_, rfl, ?_⟩))
  go_ret
  exact ⟨by first | rfl | (simp; done) | (simp [*]; done), by repeat (first | exact Drawn0.refl _ | apply Drawn0.step)⟩
 ·replace c3 := Bool.eq_false_iff.mpr c3
  subst c3
  have H1 : ((tremaref02_in.f a0 4520 4546).bind fun t174 => (some t174)) = some r := by rw [if_neg (show ¬ (false = true) by decide)] at H; exact H
  clear H
  have H := H1
  clear H1
  replace H := Option.bind_eq_some_iff.mp H
  obtain ⟨t174, A40, H⟩ := H
  replace H : (some t174) = some r := H
  have A4 := Aside0.mk A40
  clear A40
  obtain rfl := Option.some.inj H
  go_enter Tryd.func79, Tryd.ntmps79
  go_wp2_with (first | ((with_reducible refine gate_callee (f := 88) rfl ?_); refine goesL_ (some 4) rfl rfl Tryd.func88 (by kernel_rfl) rfl #[.int .i32 a0, .int .i32 4449, .int .i32 4469] rfl (by (try simp only [List.map_toArray, List.map_cons, List.map_nil]); first | done | rfl | (simp only [List.length_drop, List.length_take]; rfl)) ?_; (with_reducible refine (tremaref02_in.calls a0 4449 4469 false _ A2.out).mono ?_); rintro e w' ⟨rfl, ⟨nd, rfl⟩⟩; refine ⟨_, rfl, ?_⟩) | (go_at_call 88; (with_reducible refine (tremaref02_in.calls a0 4520 4546 t174 _ A4.out).mono ?_); rintro e w' ⟨rfl, ⟨nd, rfl⟩⟩))
  go_ret
  exact ⟨by first | rfl | (simp; done) | (simp [*]; done), by repeat (first | exact Drawn0.refl _ | apply Drawn0.step)⟩
end Go.Proofs.YthffpkdadffinaaDoor.X
namespace Go.Proofs.YthffpkdadffinaaDoor.Vr
set_option linter.unusedVariables false
set_option linter.unusedSimpArgs false
open Go.RowKit Go.Proofs.YthffpkdadffinaaDoorW.PrintWords Go.Proofs.YthffpkdadffinaaDoor.Ev0 Go.Proofs.YthffpkdadffinaaDoor.X Go.Proofs.YthffpkdadffinaaDoor.Va Go.Proofs.YthffpkdadffinaaDoor.Vc Go.Proofs.YthffpkdadffinaaDoor.Vd Go.Proofs.YthffpkdadffinaaDoor.Ve Go.Proofs.YthffpkdadffinaaDoor.Vp0
theorem rep0 (m r : Int) : ∀ B : List Int, (∀ b ∈ B, m < b) → ∃ x, x ∈ m :: B ∧ (∀ b ∈ B, (b ≤ r ↔ b ≤ x)) ∧ (x = m ∨ x ≤ r)
  | [], _ => ⟨m, List.mem_cons_self .., by simp, .inl rfl⟩
  | b :: B, h => by
    obtain ⟨x, h1, h2, h3⟩ := rep0 m r B (fun c hc => h c (List.mem_cons_of_mem _ hc))
    have hb := h b (List.mem_cons_self ..)
    by_cases c1 : b ≤ r
    · by_cases c2 : x < b
      · refine ⟨b, by simp, fun c hc => ?_, .inr c1⟩
        rcases List.mem_cons.1 hc with rfl | hc
        · exact ⟨fun _ => Int.le_refl _, fun _ => c1⟩
        · have := h2 c hc
          omega
      · refine ⟨x, ?_, fun c hc => ?_, h3⟩
        · rcases List.mem_cons.1 h1 with rfl | h1 <;> simp [*]
        · rcases List.mem_cons.1 hc with rfl | hc
          · omega
          · exact h2 c hc
    · refine ⟨x, ?_, fun c hc => ?_, h3⟩
      · rcases List.mem_cons.1 h1 with rfl | h1 <;> simp [*]
      · rcases List.mem_cons.1 hc with rfl | hc
        · omega
        · exact h2 c hc
theorem rep (B : List Int) (r : Int) (h : ∀ b ∈ B, -1 < b) : ∃ x, x ∈ -1 :: B ∧ ∀ b ∈ B, (b ≤ r ↔ b ≤ x) := by
  obtain ⟨x, h1, h2, -⟩ := rep0 (-1) r B h
  exact ⟨x, h1, h2⟩
theorem in_of {r x lo hi : Int} (h1 : lo ≤ r ↔ lo ≤ x) (h2 : hi + 1 ≤ r ↔ hi + 1 ≤ x) : tremaref02_in.f r lo hi = tremaref02_in.f x lo hi := by
  unfold tremaref02_in.f
  by_cases c : lo ≤ r
  · rw [if_pos c, if_pos (h1.1 c)]
    congr 1
    rw [decide_eq_decide]
    omega
  · rw [if_neg c, if_neg (fun h => c (h1.2 h))]
def clsB : List Int := [768, 789, 790, 794, 795, 796, 801, 803, 807, 809, 820, 825, 829, 837, 838, 839, 842, 845, 847, 848, 851, 855, 856, 8400, 8402, 12441, 12443]
theorem clsF_of {r x : Int} (hx : ∀ b ∈ clsB, (b ≤ r ↔ b ≤ x)) : ∀ l : List (Int × Int × Int), (∀ p ∈ l, p.1 ∈ clsB ∧ p.2.1 + 1 ∈ clsB) → clsF r l = clsF x l
  | [], _ => rfl
  | p :: t, h => by
    have h1 := h p (List.mem_cons_self ..)
    have a1 := hx _ h1.1
    have a2 := hx _ h1.2
    rw [clsF, clsF, clsF_of hx t (fun q hq => h q (List.mem_cons_of_mem _ hq))]
    by_cases c : p.1 ≤ r ∧ r ≤ p.2.1
    · rw [if_pos c, if_pos (by omega)]
    · rw [if_neg c, if_neg (by omega)]
theorem clsB_at : ∀ x ∈ -1 :: clsB, tremaref02_Class.f 30 x = some (cls x) := by decide +kernel
theorem refcls (r : Int) : tremaref02_Class.f 30 r = some (cls r) := by
  obtain ⟨x, hx1, hx⟩ := rep clsB r (by decide)
  have hc : cls r = cls x := clsF_of hx clsT (by decide)
  have e0 := in_of (lo := 789) (hi := 789) (hx _ (by decide : (789 : Int) ∈ clsB)) (hx _ (by decide : (790 : Int) ∈ clsB))
  have e1 := in_of (lo := 794) (hi := 794) (hx _ (by decide : (794 : Int) ∈ clsB)) (hx _ (by decide : (795 : Int) ∈ clsB))
  have e2 := in_of (lo := 790) (hi := 793) (hx _ (by decide : (790 : Int) ∈ clsB)) (hx _ (by decide : (794 : Int) ∈ clsB))
  have e3 := in_of (lo := 796) (hi := 800) (hx _ (by decide : (796 : Int) ∈ clsB)) (hx _ (by decide : (801 : Int) ∈ clsB))
  have e4 := in_of (lo := 803) (hi := 806) (hx _ (by decide : (803 : Int) ∈ clsB)) (hx _ (by decide : (807 : Int) ∈ clsB))
  have e5 := in_of (lo := 809) (hi := 819) (hx _ (by decide : (809 : Int) ∈ clsB)) (hx _ (by decide : (820 : Int) ∈ clsB))
  have e6 := in_of (lo := 825) (hi := 828) (hx _ (by decide : (825 : Int) ∈ clsB)) (hx _ (by decide : (829 : Int) ∈ clsB))
  have e7 := in_of (lo := 795) (hi := 795) (hx _ (by decide : (795 : Int) ∈ clsB)) (hx _ (by decide : (796 : Int) ∈ clsB))
  have e8 := in_of (lo := 801) (hi := 802) (hx _ (by decide : (801 : Int) ∈ clsB)) (hx _ (by decide : (803 : Int) ∈ clsB))
  have e9 := in_of (lo := 807) (hi := 808) (hx _ (by decide : (807 : Int) ∈ clsB)) (hx _ (by decide : (809 : Int) ∈ clsB))
  have e10 := in_of (lo := 820) (hi := 824) (hx _ (by decide : (820 : Int) ∈ clsB)) (hx _ (by decide : (825 : Int) ∈ clsB))
  have e11 := in_of (lo := 837) (hi := 837) (hx _ (by decide : (837 : Int) ∈ clsB)) (hx _ (by decide : (838 : Int) ∈ clsB))
  have e12 := in_of (lo := 12441) (hi := 12442) (hx _ (by decide : (12441 : Int) ∈ clsB)) (hx _ (by decide : (12443 : Int) ∈ clsB))
  have e13 := in_of (lo := 839) (hi := 841) (hx _ (by decide : (839 : Int) ∈ clsB)) (hx _ (by decide : (842 : Int) ∈ clsB))
  have e14 := in_of (lo := 845) (hi := 846) (hx _ (by decide : (845 : Int) ∈ clsB)) (hx _ (by decide : (847 : Int) ∈ clsB))
  have e15 := in_of (lo := 851) (hi := 854) (hx _ (by decide : (851 : Int) ∈ clsB)) (hx _ (by decide : (855 : Int) ∈ clsB))
  have e16 := in_of (lo := 855) (hi := 855) (hx _ (by decide : (855 : Int) ∈ clsB)) (hx _ (by decide : (856 : Int) ∈ clsB))
  have e17 := in_of (lo := 8400) (hi := 8401) (hx _ (by decide : (8400 : Int) ∈ clsB)) (hx _ (by decide : (8402 : Int) ∈ clsB))
  have e18 := in_of (lo := 768) (hi := 788) (hx _ (by decide : (768 : Int) ∈ clsB)) (hx _ (by decide : (789 : Int) ∈ clsB))
  have e19 := in_of (lo := 829) (hi := 836) (hx _ (by decide : (829 : Int) ∈ clsB)) (hx _ (by decide : (837 : Int) ∈ clsB))
  have e20 := in_of (lo := 838) (hi := 838) (hx _ (by decide : (838 : Int) ∈ clsB)) (hx _ (by decide : (839 : Int) ∈ clsB))
  have e21 := in_of (lo := 842) (hi := 844) (hx _ (by decide : (842 : Int) ∈ clsB)) (hx _ (by decide : (845 : Int) ∈ clsB))
  have e22 := in_of (lo := 848) (hi := 850) (hx _ (by decide : (848 : Int) ∈ clsB)) (hx _ (by decide : (851 : Int) ∈ clsB))
  rw [hc, ← clsB_at x hx1]
  simp only [tremaref02_Class.f, tremaref02_Class.j0, tremaref02_Class.j1, tremaref02_Class.j2, tremaref02_Class.j3, tremaref02_Class.j4, tremaref02_Class.j5, e0, e1, e2, e3, e4, e5, e6, e7, e8, e9, e10, e11, e12, e13, e14, e15, e16, e17, e18, e19, e20, e21, e22]
theorem clsEv (r : Int) : Ev (fun k => tremaref02_Class.f k r) (cls r) := Ev.of (tremaref02_Class.mono r) (refcls r)
theorem reftrl (r : Int) : tremaref02_Trailing.f r = some (trl r) := by
  have h : ∀ lo hi : Int, tremaref02_in.f r lo hi = some (decide (lo ≤ r ∧ r ≤ hi)) := fun lo hi => by
    unfold tremaref02_in.f
    by_cases c : lo ≤ r
    · rw [if_pos c]; congr 1; rw [decide_eq_decide]; omega
    · rw [if_neg c]; congr 1; symm; rw [decide_eq_false_iff_not]; omega
  unfold tremaref02_Trailing.f trl
  rw [h, h]
  simp only [Option.bind_some]
  by_cases c1 : 4449 ≤ r ∧ r ≤ 4469
  · rw [decide_eq_true c1, if_pos rfl, decide_eq_true (.inl c1)]
  · rw [decide_eq_false c1, if_neg Bool.false_ne_true]
    congr 1
    rw [decide_eq_decide]
    omega
end Go.Proofs.YthffpkdadffinaaDoor.Vr
