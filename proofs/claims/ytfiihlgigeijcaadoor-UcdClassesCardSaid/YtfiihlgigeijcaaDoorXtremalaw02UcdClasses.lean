-- Written by a program of this session (xprint.py), over the kit's print.
import Derived.Test.YtfiihlgigeijcaaDoorX0
import Derived.Test.YtfiihlgigeijcaaDoorXucdTrailing
import Derived.Test.YtfiihlgigeijcaaDoorXtremalaw02fixed
import Derived.Test.YtfiihlgigeijcaaDoorXtremaref02Class
import Derived.Test.YtfiihlgigeijcaaDoorXtremaref02Category
import Derived.Test.YtfiihlgigeijcaaDoorXtremaref02Trailing
import Derived.Test.YtfiihlgigeijcaaDoorVa
import Derived.Test.YtfiihlgigeijcaaDoorVb
namespace Go.Proofs.YtfiihlgigeijcaaDoor.X
open Go.RowKit Go.Proofs.YtfiihlgigeijcaaDoorW.PrintWords Go.Proofs.YtfiihlgigeijcaaDoorW.PrintLast Go.Proofs.YtfiihlgigeijcaaDoorW.PrintMore
attribute [local go_sem] max2_int min2_int max_two min_two max_three min_three max_four min_four   -- for this text's walks alone
set_option linter.unusedVariables false
set_option linter.unusedSimpArgs false

/-! ### tremalaw02_UcdClasses: function 3 -/
def tremalaw02_UcdClasses.l0 : Nat → List Int → Int → Int → Option (Bool)
 | 0, _, _, _ => none
 | k + 1, x7, x8, x9 => if x9 < x8 then (if 0 ≤ x9 then (if x9 < (x7.length : Int) then ((ucd_Class.f (rd x7 x9)).bind fun t270 => ((tremaref02_Class.f k (rd x7 x9)).bind fun t271 => (if t270 = t271 then ((ucd_Category.f (rd x7 x9)).bind fun t272 => ((tremaref02_Category.f k (rd x7 x9)).bind fun t273 => (if t272 = t273 then ((ucd_Trailing.f (rd x7 x9)).bind fun t274 => ((tremaref02_Trailing.f (rd x7 x9)).bind fun t275 => (if (t274 != t275) = true then (some false) else (tremalaw02_UcdClasses.l0 k x7 x8 (wrap64 (x9 + 1)))))) else (some false)))) else (some false)))) else (none)) else (none)) else (some true)
def tremalaw02_UcdClasses.f (k : Nat) (l0 : List Int) : Option (Bool) := (tremalaw02_fixed.f k).bind fun t268 => (if t268 = true then (tremalaw02_UcdClasses.l0 k l0 (l0.length : Int) 0) else (some false))
theorem tremalaw02_UcdClasses.mono_l : ∀ k, (∀ y0 y1 y2, LeO (tremalaw02_UcdClasses.l0 k y0 y1 y2) (tremalaw02_UcdClasses.l0 (k + 1) y0 y1 y2))
 | 0 => fun _ _ _ r h => by simp [tremalaw02_UcdClasses.l0] at h
 | k + 1 => by
  have ih0 := tremalaw02_UcdClasses.mono_l k
  ·intro y0 y1 y2
   unfold tremalaw02_UcdClasses.l0
   repeat' first
   | (with_reducible exact ih0 _ _ _)
   | (with_reducible exact tremalaw02_fixed.mono _)
   | (with_reducible exact tremaref02_Category.mono _ _)
   | (with_reducible exact tremaref02_Class.mono _ _)
   | (with_reducible exact LeO.refl _)
   | (with_reducible exact LeO.none _)
   | (with_reducible refine LeO.ite ?_ ?_)
   | (with_reducible refine LeO.bind ?_ (fun _ => ?_))
   | exact ih0 _ _ _
   | exact tremalaw02_fixed.mono _
   | exact tremaref02_Category.mono _ _
   | exact tremaref02_Class.mono _ _
   | exact LeO.none _
   | refine LeO.ite ?_ ?_
   | refine LeO.bind ?_ (fun _ => ?_)
theorem tremalaw02_UcdClasses.mono : ∀ a0 k, LeO (tremalaw02_UcdClasses.f k a0) (tremalaw02_UcdClasses.f (k + 1) a0) := by
 intro a0 k
 have ih0 := tremalaw02_UcdClasses.mono_l k
 unfold tremalaw02_UcdClasses.f
 repeat' first
   | (with_reducible exact ih0 _ _ _)
   | (with_reducible exact tremalaw02_fixed.mono _)
   | (with_reducible exact tremaref02_Category.mono _ _)
   | (with_reducible exact tremaref02_Class.mono _ _)
   | (with_reducible exact LeO.refl _)
   | (with_reducible exact LeO.none _)
   | (with_reducible refine LeO.ite ?_ ?_)
   | (with_reducible refine LeO.bind ?_ (fun _ => ?_))
   | exact ih0 _ _ _
   | exact tremalaw02_fixed.mono _
   | exact tremaref02_Category.mono _ _
   | exact tremaref02_Class.mono _ _
   | exact LeO.none _
   | refine LeO.ite ?_ ?_
   | refine LeO.bind ?_ (fun _ => ?_)
set_option maxHeartbeats 8000000 in
set_option maxRecDepth 100000 in
theorem tremalaw02_UcdClasses.calls (k : Nat) (A0 : Option Addr) (c0 : Nat) (l0 : List Int) (r : Bool) (w : World) (hr0 : Kd.C (Kd.int .i32) w A0 l0.length l0) (hc0 : l0.length ≤ c0) (h : tremalaw02_UcdClasses.f k l0 = some r) (hG0 : Va.G w) :
  Calls Tryd.prog 3 #[.slice A0 l0.length c0] w fun e w' => e = .returned (.bool r) ∧ Below w.heap.size w w' := by
 have HG := Aside0.mk hG0
 clear hG0
 have HR0 := Aside0.mk hr0
 have HC0 := Aside0.mk hc0
 clear hr0 hc0
 have HB := Aside0.mk (Below.refl w.heap.size w)
 have H : ((tremalaw02_fixed.f k).bind fun t268 => (if t268 = true then (tremalaw02_UcdClasses.l0 k l0 (l0.length : Int) 0) else (some false))) = some r := h
 clear h
 replace H := Option.bind_eq_some_iff.mp H
 obtain ⟨t268, A20, H⟩ := H
 replace H : (if t268 = true then (tremalaw02_UcdClasses.l0 k l0 (l0.length : Int) 0) else (some false)) = some r := H
 have A2 := Aside0.mk A20
 clear A20
 by_cases c3 : t268 = true
 ·subst c3
  have H1 : (tremalaw02_UcdClasses.l0 k l0 (l0.length : Int) 0) = some r := by rw [if_pos rfl] at H; exact H
  clear H
  have H := H1
  clear H1
  have H' := Aside0.mk H
  clear H
  go_enter Tryd.func3, Tryd.ntmps3
  go_wp2_with (first | ((with_reducible refine gate_callee (f := 11) rfl ?_); refine goesL_ (some 5) rfl rfl Tryd.func11 (by kernel_rfl) rfl #[] rfl (by (try simp only [List.map_toArray, List.map_cons, List.map_nil]); first | done | rfl | (simp only [List.length_drop, List.length_take]; rfl)) ?_; (with_reducible refine (tremalaw02_fixed.calls k  true _ A2.out (by first | exact HG.out | exact Va.G.below HG.out (by repeat (first | (with_reducible first | exact HB.out | apply below_alloc | apply pw_below_drewN | apply below_drew1) | exact HB.out)))).mono ?_); rintro e w4 ⟨rfl, hb⟩; refine ⟨_, rfl, ?_⟩; have n0_ := Aside0.mk (below_step (by repeat (first | (with_reducible first | exact HB.out | apply below_alloc | apply pw_below_drewN | apply below_drew1) | exact HB.out)) hb); clear HB; have HB := n0_; clear n0_; (try clear hb); (try clear hb2); (try clear hk); (try clear hi)))
  go_loopg [9] k (fun kq v9 w' => ∃ (x9_1 : Int), v9 = .int .i64 x9_1 ∧ Aside0 (tremalaw02_UcdClasses.l0 kq l0 (l0.length : Int) x9_1 = some r) ∧ Aside0 (kq ≤ k) ∧ Aside0 (Below w.heap.size w w'))
  case atStart => exact ⟨(0), (by first | rfl | (simp; done) | (simp [*]; done)), H', ⟨Nat.le_refl _⟩, ⟨by repeat (first | (with_reducible first | exact HB.out | apply below_alloc | apply pw_below_drewN | apply below_drew1) | exact HB.out)⟩⟩
  case round =>
   clear H'
   try clear c1
   try clear p2
   try clear c3
   obtain ⟨x9_1, rfl, HA, HK1, HB⟩ := hrel
   cases gk with
   | zero => exact absurd HA.out (by simp [tremalaw02_UcdClasses.l0])
   | succ k1 =>
    have H := HA.out
    clear HA
    simp only [tremalaw02_UcdClasses.l0] at H
    by_cases c5 : x9_1 < (l0.length : Int)
    ·rw [if_pos c5] at H
     have c5b0 : decide (x9_1 < (l0.length : Int)) = true := decide_eq_true c5
     clear c5
     by_cases c6 : 0 ≤ x9_1
     ·rw [if_pos c6] at H
      have c6b0 : decide (0 ≤ x9_1) = true := decide_eq_true c6
      clear c6
      by_cases c7 : x9_1 < (l0.length : Int)
      ·rw [if_pos c7] at H
       have c7b0 : decide (x9_1 < (l0.length : Int)) = true := decide_eq_true c7
       clear c7
       replace H := Option.bind_eq_some_iff.mp H
       obtain ⟨t270, A80, H⟩ := H
       replace H : ((tremaref02_Class.f k1 (rd l0 x9_1)).bind fun t271 => (if t270 = t271 then ((ucd_Category.f (rd l0 x9_1)).bind fun t272 => ((tremaref02_Category.f k1 (rd l0 x9_1)).bind fun t273 => (if t272 = t273 then ((ucd_Trailing.f (rd l0 x9_1)).bind fun t274 => ((tremaref02_Trailing.f (rd l0 x9_1)).bind fun t275 => (if (t274 != t275) = true then (some false) else (tremalaw02_UcdClasses.l0 k1 l0 (l0.length : Int) (wrap64 (x9_1 + 1)))))) else (some false)))) else (some false))) = some r := H
       have A8 := Aside0.mk A80
       clear A80
       replace H := Option.bind_eq_some_iff.mp H
       obtain ⟨t271, A90, H⟩ := H
       replace H : (if t270 = t271 then ((ucd_Category.f (rd l0 x9_1)).bind fun t272 => ((tremaref02_Category.f k1 (rd l0 x9_1)).bind fun t273 => (if t272 = t273 then ((ucd_Trailing.f (rd l0 x9_1)).bind fun t274 => ((tremaref02_Trailing.f (rd l0 x9_1)).bind fun t275 => (if (t274 != t275) = true then (some false) else (tremalaw02_UcdClasses.l0 k1 l0 (l0.length : Int) (wrap64 (x9_1 + 1)))))) else (some false)))) else (some false)) = some r := H
       have A9 := Aside0.mk A90
       clear A90
       by_cases c10 : t270 = t271
       ·rw [if_pos c10] at H
        have c10b0 : (t270 == t271) = true := beq_iff_eq.mpr c10
        have c10b1 : (t270 != t271) = false := bne_eq_false_iff_eq.mpr c10
        clear c10
        replace H := Option.bind_eq_some_iff.mp H
        obtain ⟨t272, A110, H⟩ := H
        replace H : ((tremaref02_Category.f k1 (rd l0 x9_1)).bind fun t273 => (if t272 = t273 then ((ucd_Trailing.f (rd l0 x9_1)).bind fun t274 => ((tremaref02_Trailing.f (rd l0 x9_1)).bind fun t275 => (if (t274 != t275) = true then (some false) else (tremalaw02_UcdClasses.l0 k1 l0 (l0.length : Int) (wrap64 (x9_1 + 1)))))) else (some false))) = some r := H
        have A11 := Aside0.mk A110
        clear A110
        replace H := Option.bind_eq_some_iff.mp H
        obtain ⟨t273, A120, H⟩ := H
        replace H : (if t272 = t273 then ((ucd_Trailing.f (rd l0 x9_1)).bind fun t274 => ((tremaref02_Trailing.f (rd l0 x9_1)).bind fun t275 => (if (t274 != t275) = true then (some false) else (tremalaw02_UcdClasses.l0 k1 l0 (l0.length : Int) (wrap64 (x9_1 + 1)))))) else (some false)) = some r := H
        have A12 := Aside0.mk A120
        clear A120
        by_cases c13 : t272 = t273
        ·rw [if_pos c13] at H
         have c13b0 : (t272 == t273) = true := beq_iff_eq.mpr c13
         have c13b1 : (t272 != t273) = false := bne_eq_false_iff_eq.mpr c13
         clear c13
         replace H := Option.bind_eq_some_iff.mp H
         obtain ⟨t274, A140, H⟩ := H
         replace H : ((tremaref02_Trailing.f (rd l0 x9_1)).bind fun t275 => (if (t274 != t275) = true then (some false) else (tremalaw02_UcdClasses.l0 k1 l0 (l0.length : Int) (wrap64 (x9_1 + 1))))) = some r := H
         have A14 := Aside0.mk A140
         clear A140
         replace H := Option.bind_eq_some_iff.mp H
         obtain ⟨t275, A150, H⟩ := H
         replace H : (if (t274 != t275) = true then (some false) else (tremalaw02_UcdClasses.l0 k1 l0 (l0.length : Int) (wrap64 (x9_1 + 1)))) = some r := H
         have A15 := Aside0.mk A150
         clear A150
         by_cases c16 : (t274 != t275) = true
         ·rw [if_pos c16] at H
          have c16b0 : (t274 != t275) = true := c16
          (try (have c16b1 : decide (t274 = t275) = false := by simpa using c16))
          (try (have c16b2 : (t274 == t275) = false := by simpa using c16))
          (try (have c16b3 : ¬ (t274 = t275) := by simpa using c16))
          clear c16
          obtain rfl := Option.some.inj H
          have p269 : 0 ≤ (x9_1 : Int) := of_decide_eq_true (by first | (with_reducible assumption) | assumption)
          have q269 : x9_1 < (l0.length : Int) := of_decide_eq_true (by first | (with_reducible assumption) | assumption)
          obtain ⟨ad269, e269, hx269_0⟩ := Kd.at_int HR0.out x9_1 p269 q269
          cases e269
          replace hx269_0 := (HB.out.cell (World.block_lt_of_cell? w _ hx269_0)).trans hx269_0
          replace p269 := eq_true p269
          replace q269 := eq_true q269
          go_wp2_with (first | ((with_reducible refine gate_callee (f := 12) rfl ?_); refine goesL_ (some 14) rfl rfl Tryd.func12 (by kernel_rfl) rfl #[.int .i32 (rd l0 x9_1)] rfl (by (try simp only [List.map_toArray, List.map_cons, List.map_nil]); first | done | rfl | (simp only [List.length_drop, List.length_take]; rfl)) ?_; (with_reducible refine (ucd_Class.calls (rd l0 x9_1) t270 _ A8.out (by first | exact HG.out | exact Va.G.below HG.out (by repeat (first | (with_reducible first | exact HB.out | apply below_alloc | apply pw_below_drewN | apply below_drew1) | exact HB.out)))).mono ?_); rintro e w17 ⟨rfl, hb⟩; refine ⟨_, rfl, ?_⟩; have n0_ := Aside0.mk (below_step (by repeat (first | (with_reducible first | exact HB.out | apply below_alloc | apply pw_below_drewN | apply below_drew1) | exact HB.out)) hb); clear HB; have HB := n0_; clear n0_; (try clear hb); (try clear hb2); (try clear hk); (try clear hi)) | ((with_reducible refine gate_callee (f := 13) rfl ?_); refine goesL_ (some 16) rfl rfl Tryd.func13 (by kernel_rfl) rfl #[.int .i32 (rd l0 x9_1)] rfl (by (try simp only [List.map_toArray, List.map_cons, List.map_nil]); first | done | rfl | (simp only [List.length_drop, List.length_take]; rfl)) ?_; (with_reducible refine (tremaref02_Class.calls k1 (rd l0 x9_1) t271 _ A9.out).mono ?_); rintro e w' ⟨rfl, ⟨nd, rfl⟩⟩; refine ⟨_, rfl, ?_⟩) | (go_at_call 14; (with_reducible refine (ucd_Category.calls (rd l0 x9_1) t272 _ A11.out).mono ?_); rintro e w18 ⟨rfl, hb⟩; have n0_ := Aside0.mk (below_step (by repeat (first | (with_reducible first | exact HB.out | apply below_alloc | apply pw_below_drewN | apply below_drew1) | exact HB.out)) hb); clear HB; have HB := n0_; clear n0_; (try clear hb); (try clear hb2); (try clear hk); (try clear hi)) | (go_at_call 15; (with_reducible refine (tremaref02_Category.calls k1 (rd l0 x9_1) t273 _ A12.out).mono ?_); rintro e w' ⟨rfl, ⟨nd, rfl⟩⟩) | (go_at_call 16; (with_reducible refine (ucd_Trailing.calls (rd l0 x9_1) t274 _ A14.out).mono ?_); rintro e w' ⟨rfl, ⟨nd, rfl⟩⟩) | (go_at_call 17; (with_reducible refine (tremaref02_Trailing.calls (rd l0 x9_1) t275 _ A15.out).mono ?_); rintro e w' ⟨rfl, ⟨nd, rfl⟩⟩))
          go_ret
          exact ⟨by first | rfl | (simp [errW_none, errW_some] <;> rfl) | (simp [*, errW_none, errW_some] <;> rfl), by repeat (first | (with_reducible first | exact HB.out | apply below_alloc | apply pw_below_drewN | apply below_drew1) | exact HB.out)⟩
         ·rw [if_neg c16] at H
          have c16b0 : (t274 != t275) = false := by simpa using c16
          (try (have c16b1 : decide (t274 = t275) = true := by simpa using c16))
          (try (have c16b2 : (t274 == t275) = true := by simpa using c16))
          clear c16
          have H' := Aside0.mk H
          clear H
          have p269 : 0 ≤ (x9_1 : Int) := of_decide_eq_true (by first | (with_reducible assumption) | assumption)
          have q269 : x9_1 < (l0.length : Int) := of_decide_eq_true (by first | (with_reducible assumption) | assumption)
          obtain ⟨ad269, e269, hx269_0⟩ := Kd.at_int HR0.out x9_1 p269 q269
          cases e269
          replace hx269_0 := (HB.out.cell (World.block_lt_of_cell? w _ hx269_0)).trans hx269_0
          replace p269 := eq_true p269
          replace q269 := eq_true q269
          go_wp2_with (first | ((with_reducible refine gate_callee (f := 12) rfl ?_); refine goesL_ (some 14) rfl rfl Tryd.func12 (by kernel_rfl) rfl #[.int .i32 (rd l0 x9_1)] rfl (by (try simp only [List.map_toArray, List.map_cons, List.map_nil]); first | done | rfl | (simp only [List.length_drop, List.length_take]; rfl)) ?_; (with_reducible refine (ucd_Class.calls (rd l0 x9_1) t270 _ A8.out (by first | exact HG.out | exact Va.G.below HG.out (by repeat (first | (with_reducible first | exact HB.out | apply below_alloc | apply pw_below_drewN | apply below_drew1) | exact HB.out)))).mono ?_); rintro e w19 ⟨rfl, hb⟩; refine ⟨_, rfl, ?_⟩; have n0_ := Aside0.mk (below_step (by repeat (first | (with_reducible first | exact HB.out | apply below_alloc | apply pw_below_drewN | apply below_drew1) | exact HB.out)) hb); clear HB; have HB := n0_; clear n0_; (try clear hb); (try clear hb2); (try clear hk); (try clear hi)) | ((with_reducible refine gate_callee (f := 13) rfl ?_); refine goesL_ (some 16) rfl rfl Tryd.func13 (by kernel_rfl) rfl #[.int .i32 (rd l0 x9_1)] rfl (by (try simp only [List.map_toArray, List.map_cons, List.map_nil]); first | done | rfl | (simp only [List.length_drop, List.length_take]; rfl)) ?_; (with_reducible refine (tremaref02_Class.calls k1 (rd l0 x9_1) t271 _ A9.out).mono ?_); rintro e w' ⟨rfl, ⟨nd, rfl⟩⟩; refine ⟨_, rfl, ?_⟩) | (go_at_call 14; (with_reducible refine (ucd_Category.calls (rd l0 x9_1) t272 _ A11.out).mono ?_); rintro e w20 ⟨rfl, hb⟩; have n0_ := Aside0.mk (below_step (by repeat (first | (with_reducible first | exact HB.out | apply below_alloc | apply pw_below_drewN | apply below_drew1) | exact HB.out)) hb); clear HB; have HB := n0_; clear n0_; (try clear hb); (try clear hb2); (try clear hk); (try clear hi)) | (go_at_call 15; (with_reducible refine (tremaref02_Category.calls k1 (rd l0 x9_1) t273 _ A12.out).mono ?_); rintro e w' ⟨rfl, ⟨nd, rfl⟩⟩) | (go_at_call 16; (with_reducible refine (ucd_Trailing.calls (rd l0 x9_1) t274 _ A14.out).mono ?_); rintro e w' ⟨rfl, ⟨nd, rfl⟩⟩) | (go_at_call 17; (with_reducible refine (tremaref02_Trailing.calls (rd l0 x9_1) t275 _ A15.out).mono ?_); rintro e w' ⟨rfl, ⟨nd, rfl⟩⟩))
          go_roundg k1
          case measure => have := HK1.out; omega
          case rel => exact ⟨(wrap64 (x9_1 + 1)), (by first | rfl | (simp; done) | (simp [*]; done)), H', ⟨by have := HK1.out; omega⟩, ⟨by repeat (first | (with_reducible first | exact HB.out | apply below_alloc | apply pw_below_drewN | apply below_drew1) | exact HB.out)⟩⟩
        ·rw [if_neg c13] at H
         have c13b0 : (t272 == t273) = false := beq_eq_false_iff_ne.mpr c13
         have c13b1 : (t272 != t273) = true := bne_iff_ne.mpr c13
         obtain rfl := Option.some.inj H
         have p269 : 0 ≤ (x9_1 : Int) := of_decide_eq_true (by first | (with_reducible assumption) | assumption)
         have q269 : x9_1 < (l0.length : Int) := of_decide_eq_true (by first | (with_reducible assumption) | assumption)
         obtain ⟨ad269, e269, hx269_0⟩ := Kd.at_int HR0.out x9_1 p269 q269
         cases e269
         replace hx269_0 := (HB.out.cell (World.block_lt_of_cell? w _ hx269_0)).trans hx269_0
         replace p269 := eq_true p269
         replace q269 := eq_true q269
         go_wp2_with (first | ((with_reducible refine gate_callee (f := 12) rfl ?_); refine goesL_ (some 14) rfl rfl Tryd.func12 (by kernel_rfl) rfl #[.int .i32 (rd l0 x9_1)] rfl (by (try simp only [List.map_toArray, List.map_cons, List.map_nil]); first | done | rfl | (simp only [List.length_drop, List.length_take]; rfl)) ?_; (with_reducible refine (ucd_Class.calls (rd l0 x9_1) t270 _ A8.out (by first | exact HG.out | exact Va.G.below HG.out (by repeat (first | (with_reducible first | exact HB.out | apply below_alloc | apply pw_below_drewN | apply below_drew1) | exact HB.out)))).mono ?_); rintro e w21 ⟨rfl, hb⟩; refine ⟨_, rfl, ?_⟩; have n0_ := Aside0.mk (below_step (by repeat (first | (with_reducible first | exact HB.out | apply below_alloc | apply pw_below_drewN | apply below_drew1) | exact HB.out)) hb); clear HB; have HB := n0_; clear n0_; (try clear hb); (try clear hb2); (try clear hk); (try clear hi)) | ((with_reducible refine gate_callee (f := 13) rfl ?_); refine goesL_ (some 16) rfl rfl Tryd.func13 (by kernel_rfl) rfl #[.int .i32 (rd l0 x9_1)] rfl (by (try simp only [List.map_toArray, List.map_cons, List.map_nil]); first | done | rfl | (simp only [List.length_drop, List.length_take]; rfl)) ?_; (with_reducible refine (tremaref02_Class.calls k1 (rd l0 x9_1) t271 _ A9.out).mono ?_); rintro e w' ⟨rfl, ⟨nd, rfl⟩⟩; refine ⟨_, rfl, ?_⟩) | (go_at_call 14; (with_reducible refine (ucd_Category.calls (rd l0 x9_1) t272 _ A11.out).mono ?_); rintro e w22 ⟨rfl, hb⟩; have n0_ := Aside0.mk (below_step (by repeat (first | (with_reducible first | exact HB.out | apply below_alloc | apply pw_below_drewN | apply below_drew1) | exact HB.out)) hb); clear HB; have HB := n0_; clear n0_; (try clear hb); (try clear hb2); (try clear hk); (try clear hi)) | (go_at_call 15; (with_reducible refine (tremaref02_Category.calls k1 (rd l0 x9_1) t273 _ A12.out).mono ?_); rintro e w' ⟨rfl, ⟨nd, rfl⟩⟩))
         go_ret
         exact ⟨by first | rfl | (simp [errW_none, errW_some] <;> rfl) | (simp [*, errW_none, errW_some] <;> rfl), by repeat (first | (with_reducible first | exact HB.out | apply below_alloc | apply pw_below_drewN | apply below_drew1) | exact HB.out)⟩
       ·rw [if_neg c10] at H
        have c10b0 : (t270 == t271) = false := beq_eq_false_iff_ne.mpr c10
        have c10b1 : (t270 != t271) = true := bne_iff_ne.mpr c10
        obtain rfl := Option.some.inj H
        have p269 : 0 ≤ (x9_1 : Int) := of_decide_eq_true (by first | (with_reducible assumption) | assumption)
        have q269 : x9_1 < (l0.length : Int) := of_decide_eq_true (by first | (with_reducible assumption) | assumption)
        obtain ⟨ad269, e269, hx269_0⟩ := Kd.at_int HR0.out x9_1 p269 q269
        cases e269
        replace hx269_0 := (HB.out.cell (World.block_lt_of_cell? w _ hx269_0)).trans hx269_0
        replace p269 := eq_true p269
        replace q269 := eq_true q269
        go_wp2_with (first | ((with_reducible refine gate_callee (f := 12) rfl ?_); refine goesL_ (some 14) rfl rfl Tryd.func12 (by kernel_rfl) rfl #[.int .i32 (rd l0 x9_1)] rfl (by (try simp only [List.map_toArray, List.map_cons, List.map_nil]); first | done | rfl | (simp only [List.length_drop, List.length_take]; rfl)) ?_; (with_reducible refine (ucd_Class.calls (rd l0 x9_1) t270 _ A8.out (by first | exact HG.out | exact Va.G.below HG.out (by repeat (first | (with_reducible first | exact HB.out | apply below_alloc | apply pw_below_drewN | apply below_drew1) | exact HB.out)))).mono ?_); rintro e w23 ⟨rfl, hb⟩; refine ⟨_, rfl, ?_⟩; have n0_ := Aside0.mk (below_step (by repeat (first | (with_reducible first | exact HB.out | apply below_alloc | apply pw_below_drewN | apply below_drew1) | exact HB.out)) hb); clear HB; have HB := n0_; clear n0_; (try clear hb); (try clear hb2); (try clear hk); (try clear hi)) | ((with_reducible refine gate_callee (f := 13) rfl ?_); refine goesL_ (some 16) rfl rfl Tryd.func13 (by kernel_rfl) rfl #[.int .i32 (rd l0 x9_1)] rfl (by (try simp only [List.map_toArray, List.map_cons, List.map_nil]); first | done | rfl | (simp only [List.length_drop, List.length_take]; rfl)) ?_; (with_reducible refine (tremaref02_Class.calls k1 (rd l0 x9_1) t271 _ A9.out).mono ?_); rintro e w' ⟨rfl, ⟨nd, rfl⟩⟩; refine ⟨_, rfl, ?_⟩))
        go_ret
        exact ⟨by first | rfl | (simp [errW_none, errW_some] <;> rfl) | (simp [*, errW_none, errW_some] <;> rfl), by repeat (first | (with_reducible first | exact HB.out | apply below_alloc | apply pw_below_drewN | apply below_drew1) | exact HB.out)⟩
      ·rw [if_neg c7] at H
       exact absurd H (by simp)
     ·rw [if_neg c6] at H
      exact absurd H (by simp)
    ·rw [if_neg c5] at H
     have c5b0 : decide (x9_1 < (l0.length : Int)) = false := decide_eq_false c5
     clear c5
     obtain rfl := Option.some.inj H
     go_wp2
     go_ret
     exact ⟨by first | rfl | (simp [errW_none, errW_some] <;> rfl) | (simp [*, errW_none, errW_some] <;> rfl), by repeat (first | (with_reducible first | exact HB.out | apply below_alloc | apply pw_below_drewN | apply below_drew1) | exact HB.out)⟩
 ·replace c3 := Bool.eq_false_iff.mpr c3
  subst c3
  have H1 : (some false) = some r := by rw [if_neg (show ¬ (false = true) by decide)] at H; exact H
  clear H
  have H := H1
  clear H1
  obtain rfl := Option.some.inj H
  go_enter Tryd.func3, Tryd.ntmps3
  go_wp2_with (first | ((with_reducible refine gate_callee (f := 11) rfl ?_); refine goesL_ (some 5) rfl rfl Tryd.func11 (by kernel_rfl) rfl #[] rfl (by (try simp only [List.map_toArray, List.map_cons, List.map_nil]); first | done | rfl | (simp only [List.length_drop, List.length_take]; rfl)) ?_; (with_reducible refine (tremalaw02_fixed.calls k  false _ A2.out (by first | exact HG.out | exact Va.G.below HG.out (by repeat (first | (with_reducible first | exact HB.out | apply below_alloc | apply pw_below_drewN | apply below_drew1) | exact HB.out)))).mono ?_); rintro e w24 ⟨rfl, hb⟩; refine ⟨_, rfl, ?_⟩; have n0_ := Aside0.mk (below_step (by repeat (first | (with_reducible first | exact HB.out | apply below_alloc | apply pw_below_drewN | apply below_drew1) | exact HB.out)) hb); clear HB; have HB := n0_; clear n0_; (try clear hb); (try clear hb2); (try clear hk); (try clear hi)))
  go_ret
  exact ⟨by first | rfl | (simp [errW_none, errW_some] <;> rfl) | (simp [*, errW_none, errW_some] <;> rfl), by repeat (first | (with_reducible first | exact HB.out | apply below_alloc | apply pw_below_drewN | apply below_drew1) | exact HB.out)⟩

end Go.Proofs.YtfiihlgigeijcaaDoor.X
