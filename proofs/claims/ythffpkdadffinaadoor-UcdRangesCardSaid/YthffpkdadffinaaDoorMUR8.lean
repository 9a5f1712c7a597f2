/-
  Several texts of this claim in one: what its law's proof uses.
-/
import Derived.Test.YthffpkdadffinaaDoorMUR5
import Derived.Test.YthffpkdadffinaaDoorMUR2
import Derived.Test.YthffpkdadffinaaDoorMUR6
import Derived.Test.YthffpkdadffinaaDoorMUR7
import Derived.Test.YthffpkdadffinaaDoorMUR4
import Derived.Test.YthffpkdadffinaaDoorMUR3
import Derived.Test.YthffpkdadffinaaDoorRows
import Derived.Deep.Slices
import Derived.ChangeArms
import Derived.ChangeMaps
import Derived.SizedLaws
import Derived.OpenShut
import Derived.ProofKit
namespace Go.Proofs.YthffpkdadffinaaDoor.Vp
set_option linter.unusedVariables false
set_option linter.unusedSimpArgs false
open Go.RowKit Go.Proofs.YthffpkdadffinaaDoorW.PrintWords Go.Proofs.YthffpkdadffinaaDoor.Ev0 Go.Proofs.YthffpkdadffinaaDoor.X Go.Proofs.YthffpkdadffinaaDoor.Va Go.Proofs.YthffpkdadffinaaDoor.Vb Go.Proofs.YthffpkdadffinaaDoor.Vc Go.Proofs.YthffpkdadffinaaDoor.Vd Go.Proofs.YthffpkdadffinaaDoor.Ve Go.Proofs.YthffpkdadffinaaDoor.Vf Go.Proofs.YthffpkdadffinaaDoor.Vp0
theorem fix_pure : tremalaw02_fixed.f 20 = some true := by decide +kernel
theorem fixEv : Ev (fun k => tremalaw02_fixed.f k) true := Ev.of tremalaw02_fixed.mono fix_pure
end Go.Proofs.YthffpkdadffinaaDoor.Vp
namespace Go.Proofs.YthffpkdadffinaaDoor.X
open Go.RowKit Go.Proofs.YthffpkdadffinaaDoorW.PrintWords Go.Proofs.YthffpkdadffinaaDoorW.PrintLast Go.Proofs.YthffpkdadffinaaDoorW.PrintMore
attribute [local go_sem] max2_int min2_int max_two min_two max_three min_three max_four min_four   
set_option linter.unusedVariables false
set_option linter.unusedSimpArgs false
theorem eqA46 (d : Nat) (w : World) (x0 y0 : Int) (x1 y1 : Int) :
    (Op.equalIn (d + 2) 46 (.agg #[.int .i32 x0, .int .i32 x1]) (.agg #[.int .i32 y0, .int .i32 y1])).run Tryd.prog w = .ok (x0 == y0 && (x1 == y1)) w := by
  refine eqA_of Tryd.underlying46 (by kernel_rfl) ?_
  refine eqf_cons (by rfl) (by go_simp; rfl) (by go_simp; rfl) (by go_simp) ?_
  exact eqf_last (by rfl) (by go_simp; rfl) (by go_simp; rfl) (by go_simp)
end Go.Proofs.YthffpkdadffinaaDoor.X
namespace Go.Proofs.YthffpkdadffinaaDoor.X
open Go.RowKit Go.Proofs.YthffpkdadffinaaDoorW.PrintWords Go.Proofs.YthffpkdadffinaaDoorW.PrintLast Go.Proofs.YthffpkdadffinaaDoorW.PrintMore
attribute [local go_sem] max2_int min2_int max_two min_two max_three min_three max_four min_four   
set_option linter.unusedVariables false
set_option linter.unusedSimpArgs false
attribute [local go_sem high] eqA46
mutual
def tremalaw02_UcdRanges.l0 : Nat → Int → List Int → List (S46) → List (S46) → Int → Int → Option (Bool)
 | 0, _, _, _, _, _, _ => none
 | k + 1, x0, x1, x5, x6, x25, x26 => if x26 < x25 then (if 0 ≤ x26 then (if x26 < (x5.length : Int) then (if x26 < (x6.length : Int) then (if (!(((rd_T46 x5 x26).f0) == ((rd_T46 x6 x26).f0)) || (!(((rd_T46 x5 x26).f1) == ((rd_T46 x6 x26).f1)))) = true then (some false) else (tremalaw02_UcdRanges.l0 k x0 x1 x5 x6 x25 (wrap64 (x26 + 1)))) else (none)) else (none)) else (none)) else (tremalaw02_UcdRanges.l1 k x0 x5 x1 (x1.length : Int) 0)
def tremalaw02_UcdRanges.l1 : Nat → Int → List (S46) → List Int → Int → Int → Option (Bool)
 | 0, _, _, _, _, _ => none
 | k + 1, x0, x5, x39, x40, x41 => if x41 < x40 then (if 0 ≤ x41 then (if x41 < (x39.length : Int) then (tremalaw02_UcdRanges.l2 k x0 x5 (rd x39 x41) false x39 x40 x41 x5 (x5.length : Int) 0) else (none)) else (none)) else (some true)
def tremalaw02_UcdRanges.l2 : Nat → Int → List (S46) → Int → Bool → List Int → Int → Int → List (S46) → Int → Int → Option (Bool)
 | 0, _, _, _, _, _, _, _, _, _, _ => none
 | k + 1, x0, x5, x9, x10, x39, x40, x41, x45, x46, x47 => if x47 < x46 then (if 0 ≤ x47 then (if x47 < (x45.length : Int) then (if x10 = true then (tremalaw02_UcdRanges.l2 k x0 x5 x9 true x39 x40 x41 x45 x46 (wrap64 (x47 + 1))) else (if ((rd_T46 x45 x47).f0) ≤ x9 then (tremalaw02_UcdRanges.l2 k x0 x5 x9 (decide (x9 ≤ ((rd_T46 x45 x47).f1))) x39 x40 x41 x45 x46 (wrap64 (x47 + 1))) else (tremalaw02_UcdRanges.l2 k x0 x5 x9 false x39 x40 x41 x45 x46 (wrap64 (x47 + 1))))) else (none)) else (none)) else (if x9 ≥ 0 then (if x9 ≤ 1114111 then ((ucd_Category.f x9).bind fun t612 => (if (x10 != (t612 == x0)) = true then (some false) else (tremalaw02_UcdRanges.l1 k x0 x5 x39 x40 (wrap64 (x41 + 1))))) else (tremalaw02_UcdRanges.l1 k x0 x5 x39 x40 (wrap64 (x41 + 1)))) else (tremalaw02_UcdRanges.l1 k x0 x5 x39 x40 (wrap64 (x41 + 1))))
end
def tremalaw02_UcdRanges.f (k : Nat) (a0 : Int) (l1 : List Int) : Option (Bool) := (tremalaw02_fixed.f k).bind fun t600 => (if t600 = true then ((ucd_Ranges.f a0).bind fun t601 => ((tremaref02_Ranges.f k a0).bind fun t604 => (if (t601.length : Int) = (t604.length : Int) then (tremalaw02_UcdRanges.l0 k a0 l1 t601 t604 (t601.length : Int) 0) else (some false)))) else (some false))
theorem tremalaw02_UcdRanges.mono_l : ∀ k, (∀ y0 y1 y2 y3 y4 y5, LeO (tremalaw02_UcdRanges.l0 k y0 y1 y2 y3 y4 y5) (tremalaw02_UcdRanges.l0 (k + 1) y0 y1 y2 y3 y4 y5)) ∧ (∀ y0 y1 y2 y3 y4, LeO (tremalaw02_UcdRanges.l1 k y0 y1 y2 y3 y4) (tremalaw02_UcdRanges.l1 (k + 1) y0 y1 y2 y3 y4)) ∧ (∀ y0 y1 y2 y3 y4 y5 y6 y7 y8 y9, LeO (tremalaw02_UcdRanges.l2 k y0 y1 y2 y3 y4 y5 y6 y7 y8 y9) (tremalaw02_UcdRanges.l2 (k + 1) y0 y1 y2 y3 y4 y5 y6 y7 y8 y9))
 | 0 => ⟨fun _ _ _ _ _ _ r h => by simp [tremalaw02_UcdRanges.l0] at h, fun _ _ _ _ _ r h => by simp [tremalaw02_UcdRanges.l1] at h, fun _ _ _ _ _ _ _ _ _ _ r h => by simp [tremalaw02_UcdRanges.l2] at h⟩
 | k + 1 => by
  obtain ⟨ih0, ih1, ih2⟩ := tremalaw02_UcdRanges.mono_l k
  refine ⟨?_, ?_, ?_⟩
  ·intro y0 y1 y2 y3 y4 y5
   unfold tremalaw02_UcdRanges.l0
   repeat' first
   | (with_reducible exact ih0 _ _ _ _ _ _)
   | (with_reducible exact ih1 _ _ _ _ _)
   | (with_reducible exact ih2 _ _ _ _ _ _ _ _ _ _)
   | (with_reducible exact tremalaw02_fixed.mono _)
   | (with_reducible exact tremaref02_Ranges.mono _ _)
   | (with_reducible exact LeO.refl _)
   | (with_reducible exact LeO.none _)
   | (with_reducible refine LeO.ite ?_ ?_)
   | (with_reducible refine LeO.bind ?_ (fun _ => ?_))
   | exact ih0 _ _ _ _ _ _
   | exact ih1 _ _ _ _ _
   | exact ih2 _ _ _ _ _ _ _ _ _ _
   | exact tremalaw02_fixed.mono _
   | exact tremaref02_Ranges.mono _ _
   | exact LeO.none _
   | refine LeO.ite ?_ ?_
   | refine LeO.bind ?_ (fun _ => ?_)
  ·intro y0 y1 y2 y3 y4
   unfold tremalaw02_UcdRanges.l1
   repeat' first
   | (with_reducible exact ih0 _ _ _ _ _ _)
   | (with_reducible exact ih1 _ _ _ _ _)
   | (with_reducible exact ih2 _ _ _ _ _ _ _ _ _ _)
   | (with_reducible exact tremalaw02_fixed.mono _)
   | (with_reducible exact tremaref02_Ranges.mono _ _)
   | (with_reducible exact LeO.refl _)
   | (with_reducible exact LeO.none _)
   | (with_reducible refine LeO.ite ?_ ?_)
   | (with_reducible refine LeO.bind ?_ (fun _ => ?_))
   | exact ih0 _ _ _ _ _ _
   | exact ih1 _ _ _ _ _
   | exact ih2 _ _ _ _ _ _ _ _ _ _
   | exact tremalaw02_fixed.mono _
   | exact tremaref02_Ranges.mono _ _
   | exact LeO.none _
   | refine LeO.ite ?_ ?_
   | refine LeO.bind ?_ (fun _ => ?_)
  ·intro y0 y1 y2 y3 y4 y5 y6 y7 y8 y9
   unfold tremalaw02_UcdRanges.l2
   repeat' first
   | (with_reducible exact ih0 _ _ _ _ _ _)
   | (with_reducible exact ih1 _ _ _ _ _)
   | (with_reducible exact ih2 _ _ _ _ _ _ _ _ _ _)
   | (with_reducible exact tremalaw02_fixed.mono _)
   | (with_reducible exact tremaref02_Ranges.mono _ _)
   | (with_reducible exact LeO.refl _)
   | (with_reducible exact LeO.none _)
   | (with_reducible refine LeO.ite ?_ ?_)
   | (with_reducible refine LeO.bind ?_ (fun _ => ?_))
   | exact ih0 _ _ _ _ _ _
   | exact ih1 _ _ _ _ _
   | exact ih2 _ _ _ _ _ _ _ _ _ _
   | exact tremalaw02_fixed.mono _
   | exact tremaref02_Ranges.mono _ _
   | exact LeO.none _
   | refine LeO.ite ?_ ?_
   | refine LeO.bind ?_ (fun _ => ?_)
theorem tremalaw02_UcdRanges.mono : ∀ a0 a1 k, LeO (tremalaw02_UcdRanges.f k a0 a1) (tremalaw02_UcdRanges.f (k + 1) a0 a1) := by
 intro a0 a1 k
 obtain ⟨ih0, ih1, ih2⟩ := tremalaw02_UcdRanges.mono_l k
 unfold tremalaw02_UcdRanges.f
 repeat' first
   | (with_reducible exact ih0 _ _ _ _ _ _)
   | (with_reducible exact ih1 _ _ _ _ _)
   | (with_reducible exact ih2 _ _ _ _ _ _ _ _ _ _)
   | (with_reducible exact tremalaw02_fixed.mono _)
   | (with_reducible exact tremaref02_Ranges.mono _ _)
   | (with_reducible exact LeO.refl _)
   | (with_reducible exact LeO.none _)
   | (with_reducible refine LeO.ite ?_ ?_)
   | (with_reducible refine LeO.bind ?_ (fun _ => ?_))
   | exact ih0 _ _ _ _ _ _
   | exact ih1 _ _ _ _ _
   | exact ih2 _ _ _ _ _ _ _ _ _ _
   | exact tremalaw02_fixed.mono _
   | exact tremaref02_Ranges.mono _ _
   | exact LeO.none _
   | refine LeO.ite ?_ ?_
   | refine LeO.bind ?_ (fun _ => ?_)
set_option maxHeartbeats 8000000 in
set_option maxRecDepth 100000 in
theorem tremalaw02_UcdRanges.calls (k : Nat) (a0 : Int) (A1 : Option Addr) (c1 : Nat) (l1 : List Int) (r : Bool) (w : World) (hr1 : Kd.C (Kd.int .i32) w A1 l1.length l1) (hc1 : l1.length ≤ c1) (h : tremalaw02_UcdRanges.f k a0 l1 = some r) (hG0 : Va.G w) :
  Calls Tryd.prog 5 #[.int .i64 a0, .slice A1 l1.length c1] w fun e w' => e = .returned (.bool r) ∧ Below w.heap.size w w' := by
 have HG := Aside0.mk hG0
 clear hG0
 have hu46 := Tryd.underlying46
 have HR1 := Aside0.mk hr1
 have HC1 := Aside0.mk hc1
 clear hr1 hc1
 have HB := Aside0.mk (Below.refl w.heap.size w)
 have H : ((tremalaw02_fixed.f k).bind fun t600 => (if t600 = true then ((ucd_Ranges.f a0).bind fun t601 => ((tremaref02_Ranges.f k a0).bind fun t604 => (if (t601.length : Int) = (t604.length : Int) then (tremalaw02_UcdRanges.l0 k a0 l1 t601 t604 (t601.length : Int) 0) else (some false)))) else (some false))) = some r := h
 clear h
 replace H := Option.bind_eq_some_iff.mp H
 obtain ⟨t600, A30, H⟩ := H
 replace H : (if t600 = true then ((ucd_Ranges.f a0).bind fun t601 => ((tremaref02_Ranges.f k a0).bind fun t604 => (if (t601.length : Int) = (t604.length : Int) then (tremalaw02_UcdRanges.l0 k a0 l1 t601 t604 (t601.length : Int) 0) else (some false)))) else (some false)) = some r := H
 have A3 := Aside0.mk A30
 clear A30
 by_cases c4 : t600 = true
 ·subst c4
  have H1 : ((ucd_Ranges.f a0).bind fun t601 => ((tremaref02_Ranges.f k a0).bind fun t604 => (if (t601.length : Int) = (t604.length : Int) then (tremalaw02_UcdRanges.l0 k a0 l1 t601 t604 (t601.length : Int) 0) else (some false)))) = some r := by rw [if_pos rfl] at H; exact H
  clear H
  have H := H1
  clear H1
  replace H := Option.bind_eq_some_iff.mp H
  obtain ⟨t601, A50, H⟩ := H
  replace H : ((tremaref02_Ranges.f k a0).bind fun t604 => (if (t601.length : Int) = (t604.length : Int) then (tremalaw02_UcdRanges.l0 k a0 l1 t601 t604 (t601.length : Int) 0) else (some false))) = some r := H
  have A5 := Aside0.mk A50
  clear A50
  replace H := Option.bind_eq_some_iff.mp H
  obtain ⟨t604, A60, H⟩ := H
  replace H : (if (t601.length : Int) = (t604.length : Int) then (tremalaw02_UcdRanges.l0 k a0 l1 t601 t604 (t601.length : Int) 0) else (some false)) = some r := H
  have A6 := Aside0.mk A60
  clear A60
  by_cases c7 : (t601.length : Int) = (t604.length : Int)
  ·rw [if_pos c7] at H
   have c7b0 : ((t601.length : Int) == (t604.length : Int)) = true := beq_iff_eq.mpr c7
   have c7b1 : ((t601.length : Int) != (t604.length : Int)) = false := bne_eq_false_iff_eq.mpr c7
   have c7b2 : (t601.length == t604.length) = true := by first | simpa using c7 | (simp at c7 ⊢; omega)
   clear c7
   have H' := Aside0.mk H
   clear H
   go_enter Tryd.func5, Tryd.ntmps5
   go_wp2_with (first | (go_at_call 22; (with_reducible refine (tremalaw02_fixed.calls k  true _ A3.out (by first | exact HG.out | exact Va.G.below HG.out (by repeat (first | (with_reducible first | exact HB.out | apply below_alloc | apply pw_below_drewN | apply below_drew1) | exact HB.out)))).mono ?_); rintro e w8 ⟨rfl, hb⟩; have n0_ := Aside0.mk (below_step (by repeat (first | (with_reducible first | exact HB.out | apply below_alloc | apply pw_below_drewN | apply below_drew1) | exact HB.out)) hb); clear HB; have HB := n0_; clear n0_; (try clear hb); (try clear hb2); (try clear hk); (try clear hi)) | (go_at_call 23; (with_reducible refine (ucd_Ranges.calls a0 t601 _ A5.out).mono ?_); rintro e w9 ⟨v602, rfl, ho0, hb⟩; have n0_ := Aside0.mk (Kd.R_lower ho0 (below_size (by repeat (first | (with_reducible first | exact HB.out | apply below_alloc | apply pw_below_drewN | apply below_drew1) | exact HB.out)))); have n1_ := Aside0.mk (below_step (by repeat (first | (with_reducible first | exact HB.out | apply below_alloc | apply pw_below_drewN | apply below_drew1) | exact HB.out)) hb); clear HB; have HO603 := n0_; have HB := n1_; clear n0_ n1_; (try clear hb); (try clear hb2); (try clear hk); (try clear hi); (try clear ho0)) | (go_at_call 24; (with_reducible refine (tremaref02_Ranges.calls k a0 t604 _ A6.out).mono ?_); rintro e w10 ⟨v605, rfl, ho0, hb⟩; have n0_ := Aside0.mk (Kd.R_elder' (by (with_reducible repeat (first | apply Kd.R_alloc | apply Kd.R_drewN | apply Kd.R_drew)); exact HO603.out) (Kd.R_base ho0) hb); have n1_ := Aside0.mk (Kd.R_lower (Kd.R_new' ho0 (Kd.R_lt (by (with_reducible repeat (first | apply Kd.R_alloc | apply Kd.R_drewN | apply Kd.R_drew)); exact HO603.out))) (below_size (by repeat (first | (with_reducible first | exact HB.out | apply below_alloc | apply pw_below_drewN | apply below_drew1) | exact HB.out)))); have n2_ := Aside0.mk (below_step (by repeat (first | (with_reducible first | exact HB.out | apply below_alloc | apply pw_below_drewN | apply below_drew1) | exact HB.out)) hb); clear HO603; clear HB; have HO603 := n0_; have HO606 := n1_; have HB := n2_; clear n0_ n1_ n2_; (try clear hb); (try clear hb2); (try clear hk); (try clear hi); (try clear ho0); obtain ⟨Ao11, co11, eo11⟩ := Kd.R_slice HO603.out; subst eo11; obtain ⟨Ao12, co12, eo12⟩ := Kd.R_slice HO606.out; subst eo12))
   repeat (go_quiet (first | (go_at_call 22; (with_reducible refine (tremalaw02_fixed.calls k  true _ A3.out (by first | exact HG.out | exact Va.G.below HG.out (by repeat (first | (with_reducible first | exact HB.out | apply below_alloc | apply pw_below_drewN | apply below_drew1) | exact HB.out)))).mono ?_); rintro e w8 ⟨rfl, hb⟩; have n0_ := Aside0.mk (below_step (by repeat (first | (with_reducible first | exact HB.out | apply below_alloc | apply pw_below_drewN | apply below_drew1) | exact HB.out)) hb); clear HB; have HB := n0_; clear n0_; (try clear hb); (try clear hb2); (try clear hk); (try clear hi)) | (go_at_call 23; (with_reducible refine (ucd_Ranges.calls a0 t601 _ A5.out).mono ?_); rintro e w9 ⟨v602, rfl, ho0, hb⟩; have n0_ := Aside0.mk (Kd.R_lower ho0 (below_size (by repeat (first | (with_reducible first | exact HB.out | apply below_alloc | apply pw_below_drewN | apply below_drew1) | exact HB.out)))); have n1_ := Aside0.mk (below_step (by repeat (first | (with_reducible first | exact HB.out | apply below_alloc | apply pw_below_drewN | apply below_drew1) | exact HB.out)) hb); clear HB; have HO603 := n0_; have HB := n1_; clear n0_ n1_; (try clear hb); (try clear hb2); (try clear hk); (try clear hi); (try clear ho0)) | (go_at_call 24; (with_reducible refine (tremaref02_Ranges.calls k a0 t604 _ A6.out).mono ?_); rintro e w10 ⟨v605, rfl, ho0, hb⟩; have n0_ := Aside0.mk (Kd.R_elder' (by (with_reducible repeat (first | apply Kd.R_alloc | apply Kd.R_drewN | apply Kd.R_drew)); exact HO603.out) (Kd.R_base ho0) hb); have n1_ := Aside0.mk (Kd.R_lower (Kd.R_new' ho0 (Kd.R_lt (by (with_reducible repeat (first | apply Kd.R_alloc | apply Kd.R_drewN | apply Kd.R_drew)); exact HO603.out))) (below_size (by repeat (first | (with_reducible first | exact HB.out | apply below_alloc | apply pw_below_drewN | apply below_drew1) | exact HB.out)))); have n2_ := Aside0.mk (below_step (by repeat (first | (with_reducible first | exact HB.out | apply below_alloc | apply pw_below_drewN | apply below_drew1) | exact HB.out)) hb); clear HO603; clear HB; have HO603 := n0_; have HO606 := n1_; have HB := n2_; clear n0_ n1_ n2_; (try clear hb); (try clear hb2); (try clear hk); (try clear hi); (try clear ho0); obtain ⟨Ao11, co11, eo11⟩ := Kd.R_slice HO603.out; subst eo11; obtain ⟨Ao12, co12, eo12⟩ := Kd.R_slice HO606.out; subst eo12)); try go_wp2_with (first | (go_at_call 22; (with_reducible refine (tremalaw02_fixed.calls k  true _ A3.out (by first | exact HG.out | exact Va.G.below HG.out (by repeat (first | (with_reducible first | exact HB.out | apply below_alloc | apply pw_below_drewN | apply below_drew1) | exact HB.out)))).mono ?_); rintro e w8 ⟨rfl, hb⟩; have n0_ := Aside0.mk (below_step (by repeat (first | (with_reducible first | exact HB.out | apply below_alloc | apply pw_below_drewN | apply below_drew1) | exact HB.out)) hb); clear HB; have HB := n0_; clear n0_; (try clear hb); (try clear hb2); (try clear hk); (try clear hi)) | (go_at_call 23; (with_reducible refine (ucd_Ranges.calls a0 t601 _ A5.out).mono ?_); rintro e w9 ⟨v602, rfl, ho0, hb⟩; have n0_ := Aside0.mk (Kd.R_lower ho0 (below_size (by repeat (first | (with_reducible first | exact HB.out | apply below_alloc | apply pw_below_drewN | apply below_drew1) | exact HB.out)))); have n1_ := Aside0.mk (below_step (by repeat (first | (with_reducible first | exact HB.out | apply below_alloc | apply pw_below_drewN | apply below_drew1) | exact HB.out)) hb); clear HB; have HO603 := n0_; have HB := n1_; clear n0_ n1_; (try clear hb); (try clear hb2); (try clear hk); (try clear hi); (try clear ho0)) | (go_at_call 24; (with_reducible refine (tremaref02_Ranges.calls k a0 t604 _ A6.out).mono ?_); rintro e w10 ⟨v605, rfl, ho0, hb⟩; have n0_ := Aside0.mk (Kd.R_elder' (by (with_reducible repeat (first | apply Kd.R_alloc | apply Kd.R_drewN | apply Kd.R_drew)); exact HO603.out) (Kd.R_base ho0) hb); have n1_ := Aside0.mk (Kd.R_lower (Kd.R_new' ho0 (Kd.R_lt (by (with_reducible repeat (first | apply Kd.R_alloc | apply Kd.R_drewN | apply Kd.R_drew)); exact HO603.out))) (below_size (by repeat (first | (with_reducible first | exact HB.out | apply below_alloc | apply pw_below_drewN | apply below_drew1) | exact HB.out)))); have n2_ := Aside0.mk (below_step (by repeat (first | (with_reducible first | exact HB.out | apply below_alloc | apply pw_below_drewN | apply below_drew1) | exact HB.out)) hb); clear HO603; clear HB; have HO603 := n0_; have HO606 := n1_; have HB := n2_; clear n0_ n1_ n2_; (try clear hb); (try clear hb2); (try clear hk); (try clear hi); (try clear ho0); obtain ⟨Ao11, co11, eo11⟩ := Kd.R_slice HO603.out; subst eo11; obtain ⟨Ao12, co12, eo12⟩ := Kd.R_slice HO606.out; subst eo12)))
   go_loopg [26] k (fun kq v26 w' => ∃ (x26_1 : Int), v26 = .int .i64 x26_1 ∧ Aside0 (tremalaw02_UcdRanges.l0 kq a0 l1 t601 t604 (t601.length : Int) x26_1 = some r) ∧ Aside0 (kq ≤ k) ∧ Aside0 (Kd.R k46 46 w' w.heap.size (fun k_ => some k_ ≠ ((.slice Ao12 t604.length co12) : Value).ownBlock) (.slice Ao11 t601.length co11) t601) ∧ Aside0 (Kd.R k46 46 w' w.heap.size (fun k_ => some k_ ≠ ((.slice Ao11 t601.length co11) : Value).ownBlock) (.slice Ao12 t604.length co12) t604) ∧ Aside0 (Below w.heap.size w w'))
   case atStart => exact ⟨(0), (by first | rfl | (simp; done) | (simp [*]; done)), H', ⟨Nat.le_refl _⟩, ⟨by (with_reducible repeat (first | apply Kd.R_alloc | apply Kd.R_drewN | apply Kd.R_drew)); exact Kd.R_mono HO603.out (fun _ hk => hk.2)⟩, ⟨by (with_reducible repeat (first | apply Kd.R_alloc | apply Kd.R_drewN | apply Kd.R_drew)); exact Kd.R_mono HO606.out (fun _ hk => hk.2)⟩, ⟨by repeat (first | (with_reducible first | exact HB.out | apply below_alloc | apply pw_below_drewN | apply below_drew1) | exact HB.out)⟩⟩
   case round =>
    clear H'
    try clear c1
    try clear p2
    try clear c4
    try clear c5
    try clear c7
    try clear c7b0
    try clear c7b1
    try clear c7b2
    obtain ⟨x26_1, rfl, HA, HK1, HO_5, HO_6, HB⟩ := hrel
    cases gk with
    | zero => exact absurd HA.out (by simp [tremalaw02_UcdRanges.l0])
    | succ k1 =>
     have H := HA.out
     clear HA
     simp only [tremalaw02_UcdRanges.l0] at H
     by_cases c13 : x26_1 < (t601.length : Int)
     ·rw [if_pos c13] at H
      have c13b0 : decide (x26_1 < (t601.length : Int)) = true := decide_eq_true c13
      clear c13
      by_cases c14 : 0 ≤ x26_1
      ·rw [if_pos c14] at H
       have c14b0 : decide (0 ≤ x26_1) = true := decide_eq_true c14
       clear c14
       by_cases c15 : x26_1 < (t601.length : Int)
       ·rw [if_pos c15] at H
        have c15b0 : decide (x26_1 < (t601.length : Int)) = true := decide_eq_true c15
        clear c15
        by_cases c16 : x26_1 < (t604.length : Int)
        ·rw [if_pos c16] at H
         have c16b0 : decide (x26_1 < (t604.length : Int)) = true := decide_eq_true c16
         clear c16
         by_cases c17 : (!(((rd_T46 t601 x26_1).f0) == ((rd_T46 t604 x26_1).f0)) || (!(((rd_T46 t601 x26_1).f1) == ((rd_T46 t604 x26_1).f1)))) = true
         ·rw [if_pos c17] at H
          have c17b0 : (!(((rd_T46 t601 x26_1).f0) == ((rd_T46 t604 x26_1).f0)) || (!(((rd_T46 t601 x26_1).f1) == ((rd_T46 t604 x26_1).f1)))) = true := c17
          clear c17
          obtain rfl := Option.some.inj H
          have p607 : 0 ≤ (x26_1 : Int) := of_decide_eq_true (by first | (with_reducible assumption) | assumption)
          have q607 : x26_1 < (t601.length : Int) := of_decide_eq_true (by first | (with_reducible assumption) | assumption)
          obtain ⟨ad607, e607, hx607_0, hx607_1⟩ := at_T46 (Kd.R_reads' HO_5.out).2.2 x26_1 p607 q607
          cases e607
          replace p607 := eq_true p607
          replace q607 := eq_true q607
          have p608 : 0 ≤ (x26_1 : Int) := of_decide_eq_true (by first | (with_reducible assumption) | assumption)
          have q608 : x26_1 < (t604.length : Int) := of_decide_eq_true (by first | (with_reducible assumption) | assumption)
          obtain ⟨ad608, e608, hx608_0, hx608_1⟩ := at_T46 (Kd.R_reads' HO_6.out).2.2 x26_1 p608 q608
          cases e608
          replace p608 := eq_true p608
          replace q608 := eq_true q608
          go_wp2
          repeat (go_quiet (fail); try go_wp2)
          go_ret
          exact ⟨by first | rfl | (simp [errW_none, errW_some] <;> rfl) | (simp [*, errW_none, errW_some] <;> rfl), by repeat (first | (with_reducible first | exact HB.out | apply below_alloc | apply pw_below_drewN | apply below_drew1) | exact HB.out)⟩
         ·rw [if_neg c17] at H
          have c17b0 : (!(((rd_T46 t601 x26_1).f0) == ((rd_T46 t604 x26_1).f0)) || (!(((rd_T46 t601 x26_1).f1) == ((rd_T46 t604 x26_1).f1)))) = false := by simpa using c17
          clear c17
          have H' := Aside0.mk H
          clear H
          have p607 : 0 ≤ (x26_1 : Int) := of_decide_eq_true (by first | (with_reducible assumption) | assumption)
          have q607 : x26_1 < (t601.length : Int) := of_decide_eq_true (by first | (with_reducible assumption) | assumption)
          obtain ⟨ad607, e607, hx607_0, hx607_1⟩ := at_T46 (Kd.R_reads' HO_5.out).2.2 x26_1 p607 q607
          cases e607
          replace p607 := eq_true p607
          replace q607 := eq_true q607
          have p608 : 0 ≤ (x26_1 : Int) := of_decide_eq_true (by first | (with_reducible assumption) | assumption)
          have q608 : x26_1 < (t604.length : Int) := of_decide_eq_true (by first | (with_reducible assumption) | assumption)
          obtain ⟨ad608, e608, hx608_0, hx608_1⟩ := at_T46 (Kd.R_reads' HO_6.out).2.2 x26_1 p608 q608
          cases e608
          replace p608 := eq_true p608
          replace q608 := eq_true q608
          go_wp2
          repeat (go_quiet (fail); try go_wp2)
          go_roundg k1
          case measure => have := HK1.out; omega
          case rel => exact ⟨(wrap64 (x26_1 + 1)), (by first | rfl | (simp; done) | (simp [*]; done)), H', ⟨by have := HK1.out; omega⟩, ⟨by (with_reducible repeat (first | apply Kd.R_alloc | apply Kd.R_drewN | apply Kd.R_drew)); exact HO_5.out⟩, ⟨by (with_reducible repeat (first | apply Kd.R_alloc | apply Kd.R_drewN | apply Kd.R_drew)); exact HO_6.out⟩, ⟨by repeat (first | (with_reducible first | exact HB.out | apply below_alloc | apply pw_below_drewN | apply below_drew1) | exact HB.out)⟩⟩
        ·rw [if_neg c16] at H
         exact absurd H (by simp)
       ·rw [if_neg c15] at H
        exact absurd H (by simp)
      ·rw [if_neg c14] at H
       exact absurd H (by simp)
     ·rw [if_neg c13] at H
      have c13b0 : decide (x26_1 < (t601.length : Int)) = false := decide_eq_false c13
      clear c13
      have H' := Aside0.mk H
      clear H
      go_wp2
      repeat (go_quiet (fail); try go_wp2)
      go_loopg [41] k1 (fun kq v41 w' => ∃ (x41_2 : Int), v41 = .int .i64 x41_2 ∧ Aside0 (tremalaw02_UcdRanges.l1 kq a0 t601 l1 (l1.length : Int) x41_2 = some r) ∧ Aside0 (kq ≤ k1) ∧ Aside0 (Kd.R k46 46 w' w.heap.size (fun _ => True) (.slice Ao11 t601.length co11) t601) ∧ Aside0 (Below w.heap.size w w'))
      case atStart => exact ⟨(0), (by first | rfl | (simp; done) | (simp [*]; done)), H', ⟨Nat.le_refl _⟩, ⟨by (with_reducible repeat (first | apply Kd.R_alloc | apply Kd.R_drewN | apply Kd.R_drew)); exact Kd.R_mono HO_5.out (fun _ hk => trivial)⟩, ⟨by repeat (first | (with_reducible first | exact HB.out | apply below_alloc | apply pw_below_drewN | apply below_drew1) | exact HB.out)⟩⟩
      case round =>
       clear H'
       try clear c1
       try clear p2
       try clear c4
       try clear c5
       try clear p6
       try clear q6
       try clear hx6
       try clear c7
       try clear c7b0
       try clear c7b1
       try clear c7b2
       try clear c13
       try clear c13b0
       try clear c14
       try clear c14b0
       try clear c15
       try clear c15b0
       try clear c16
       try clear c16b0
       try clear c17
       try clear c17b0
       try clear hx607_0
       try clear hx607_1
       try clear hx608_0
       try clear hx608_1
       try clear p2
       try clear p607
       try clear p608
       try clear q607
       try clear q608
       obtain ⟨x41_2, rfl, HA, HK2, HO_5, HB⟩ := hrel
       cases gk with
       | zero => exact absurd HA.out (by simp [tremalaw02_UcdRanges.l1])
       | succ k2 =>
        have H := HA.out
        clear HA
        simp only [tremalaw02_UcdRanges.l1] at H
        by_cases c18 : x41_2 < (l1.length : Int)
        ·rw [if_pos c18] at H
         have c18b0 : decide (x41_2 < (l1.length : Int)) = true := decide_eq_true c18
         clear c18
         by_cases c19 : 0 ≤ x41_2
         ·rw [if_pos c19] at H
          have c19b0 : decide (0 ≤ x41_2) = true := decide_eq_true c19
          clear c19
          by_cases c20 : x41_2 < (l1.length : Int)
          ·rw [if_pos c20] at H
           have c20b0 : decide (x41_2 < (l1.length : Int)) = true := decide_eq_true c20
           clear c20
           have H' := Aside0.mk H
           clear H
           have p609 : 0 ≤ (x41_2 : Int) := of_decide_eq_true (by first | (with_reducible assumption) | assumption)
           have q609 : x41_2 < (l1.length : Int) := of_decide_eq_true (by first | (with_reducible assumption) | assumption)
           obtain ⟨ad609, e609, hx609_0⟩ := Kd.at_int HR1.out x41_2 p609 q609
           cases e609
           replace hx609_0 := (HB.out.cell (World.block_lt_of_cell? w _ hx609_0)).trans hx609_0
           replace p609 := eq_true p609
           replace q609 := eq_true q609
           go_wp2
           repeat (go_quiet (fail); try go_wp2)
           go_loopg [10, 47] k2 (fun kq v10 v47 w' => ∃ (x10_3 : Bool) (x47_3 : Int), v10 = .bool x10_3 ∧ v47 = .int .i64 x47_3 ∧ Aside0 (tremalaw02_UcdRanges.l2 kq a0 t601 (rd l1 x41_2) x10_3 l1 (l1.length : Int) x41_2 t601 (t601.length : Int) x47_3 = some r) ∧ Aside0 (kq ≤ k2) ∧ Aside0 (Kd.R k46 46 w' w.heap.size (fun _ => True) (.slice Ao11 t601.length co11) t601) ∧ Aside0 (Kd.R k46 46 w' w.heap.size (fun _ => True) (.slice Ao11 t601.length co11) t601) ∧ Aside0 (Below w.heap.size w w'))
           case atStart => exact ⟨(false), (0), (by first | rfl | (simp; done) | (simp [*]; done)), (by first | rfl | (simp; done) | (simp [*]; done)), H', ⟨Nat.le_refl _⟩, ⟨by (with_reducible repeat (first | apply Kd.R_alloc | apply Kd.R_drewN | apply Kd.R_drew)); exact HO_5.out⟩, ⟨by (with_reducible repeat (first | apply Kd.R_alloc | apply Kd.R_drewN | apply Kd.R_drew)); exact HO_5.out⟩, ⟨by repeat (first | (with_reducible first | exact HB.out | apply below_alloc | apply pw_below_drewN | apply below_drew1) | exact HB.out)⟩⟩
           case round =>
            clear H'
            try clear c1
            try clear c2
            try clear p2
            try clear c4
            try clear c5
            try clear p6
            try clear q6
            try clear hx6
            try clear c7
            try clear c7b0
            try clear c7b1
            try clear c7b2
            try clear c13
            try clear c13b0
            try clear c14
            try clear c14b0
            try clear c15
            try clear c15b0
            try clear c16
            try clear c16b0
            try clear c17
            try clear c17b0
            try clear c18
            try clear c18b0
            try clear c19
            try clear c19b0
            try clear c20
            try clear c20b0
            try clear hx607_0
            try clear hx607_1
            try clear hx608_0
            try clear hx608_1
            try clear hx609_0
            try clear p2
            try clear p6
            try clear p607
            try clear p608
            try clear p609
            try clear q6
            try clear q607
            try clear q608
            try clear q609
            obtain ⟨x10_3, x47_3, rfl, rfl, HA, HK3, HO_5, HO_45, HB⟩ := hrel
            cases gk with
            | zero => exact absurd HA.out (by simp [tremalaw02_UcdRanges.l2])
            | succ k3 =>
             have H := HA.out
             clear HA
             simp only [tremalaw02_UcdRanges.l2] at H
             by_cases c21 : x47_3 < (t601.length : Int)
             ·rw [if_pos c21] at H
              have c21b0 : decide (x47_3 < (t601.length : Int)) = true := decide_eq_true c21
              clear c21
              by_cases c22 : 0 ≤ x47_3
              ·rw [if_pos c22] at H
               have c22b0 : decide (0 ≤ x47_3) = true := decide_eq_true c22
               clear c22
               by_cases c23 : x47_3 < (t601.length : Int)
               ·rw [if_pos c23] at H
                have c23b0 : decide (x47_3 < (t601.length : Int)) = true := decide_eq_true c23
                clear c23
                by_cases c24 : x10_3 = true
                ·subst c24
                 have H1 : (tremalaw02_UcdRanges.l2 k3 a0 t601 (rd l1 x41_2) true l1 (l1.length : Int) x41_2 t601 (t601.length : Int) (wrap64 (x47_3 + 1))) = some r := by rw [if_pos rfl] at H; exact H
                 clear H
                 have H := H1
                 clear H1
                 have H' := Aside0.mk H
                 clear H
                 have p610 : 0 ≤ (x47_3 : Int) := of_decide_eq_true (by first | (with_reducible assumption) | assumption)
                 have q610 : x47_3 < (t601.length : Int) := of_decide_eq_true (by first | (with_reducible assumption) | assumption)
                 obtain ⟨ad610, e610, hx610_0, hx610_1⟩ := at_T46 (Kd.R_reads' HO_45.out).2.2 x47_3 p610 q610
                 cases e610
                 replace p610 := eq_true p610
                 replace q610 := eq_true q610
                 go_wp2_with (first | ((with_reducible refine gate_dst (N := 12) rfl ?_); refine box_event ?hg (N := 12) ?hd (cs := #[.int .i32 0, .int .i32 0]) (t := 46) ?hr ?_; (case hd => rfl); (case hg => rfl); (case hr => first | (go_simp; done) | (go_simp; rfl)); intro gb611 hg w25 hbox hb; have n0_ := Aside0.mk (Kd.R_below (Kd.R_elderB (by (with_reducible repeat (first | apply Kd.R_alloc | apply Kd.R_drewN | apply Kd.R_drew)); exact HO_5.out) gb611 (Nat.le_of_eq hg.symm)) hb); have n1_ := Aside0.mk (Kd.R_below (Kd.R_elderB (by (with_reducible repeat (first | apply Kd.R_alloc | apply Kd.R_drewN | apply Kd.R_drew)); exact HO_45.out) gb611 (Nat.le_of_eq hg.symm)) hb); have n2_ := Aside0.mk (below_step (by repeat (first | (with_reducible first | exact HB.out | apply below_alloc | apply pw_below_drewN | apply below_drew1) | exact HB.out)) hb); have n3_ := Aside0.mk (hbox); have n4_ := Aside0.mk ((by rw [hg]; exact (below_size (by repeat (first | (with_reducible first | exact HB.out | apply below_alloc | apply pw_below_drewN | apply below_drew1) | exact HB.out))) : w.heap.size ≤ gb611)); have n5_ := Aside0.mk ((by rw [hg]; exact (below_size (by repeat (first | (with_reducible first | exact HB.out | apply below_alloc | apply pw_below_drewN | apply below_drew1) | exact HB.out))) : w.heap.size ≤ gb611)); clear HO_5; clear HO_45; clear HB; have HO_5 := n0_; have HO_45 := n1_; have HB := n2_; have BK611 := n3_; have GW611 := n4_; have GE611 := n5_; clear n0_ n1_ n2_ n3_ n4_ n5_; clear hb hbox hg; have hcz26_0 : w25.cell? ⟨gb611, 0, none⟩ = some (.int .i32 0) := (blk_cell BK611.out 0).trans rfl; have hcz26_1 : w25.cell? ⟨gb611, 1, none⟩ = some (.int .i32 0) := (blk_cell BK611.out 1).trans rfl; have hfz26_0 := blk_frozen BK611.out 0; have hfz26_1 := blk_frozen BK611.out 1))
                 repeat (go_quiet (first | ((with_reducible refine gate_dst (N := 12) rfl ?_); refine box_event ?hg (N := 12) ?hd (cs := #[.int .i32 0, .int .i32 0]) (t := 46) ?hr ?_; (case hd => rfl); (case hg => rfl); (case hr => first | (go_simp; done) | (go_simp; rfl)); intro gb611 hg w25 hbox hb; have n0_ := Aside0.mk (Kd.R_below (Kd.R_elderB (by (with_reducible repeat (first | apply Kd.R_alloc | apply Kd.R_drewN | apply Kd.R_drew)); exact HO_5.out) gb611 (Nat.le_of_eq hg.symm)) hb); have n1_ := Aside0.mk (Kd.R_below (Kd.R_elderB (by (with_reducible repeat (first | apply Kd.R_alloc | apply Kd.R_drewN | apply Kd.R_drew)); exact HO_45.out) gb611 (Nat.le_of_eq hg.symm)) hb); have n2_ := Aside0.mk (below_step (by repeat (first | (with_reducible first | exact HB.out | apply below_alloc | apply pw_below_drewN | apply below_drew1) | exact HB.out)) hb); have n3_ := Aside0.mk (hbox); have n4_ := Aside0.mk ((by rw [hg]; exact (below_size (by repeat (first | (with_reducible first | exact HB.out | apply below_alloc | apply pw_below_drewN | apply below_drew1) | exact HB.out))) : w.heap.size ≤ gb611)); have n5_ := Aside0.mk ((by rw [hg]; exact (below_size (by repeat (first | (with_reducible first | exact HB.out | apply below_alloc | apply pw_below_drewN | apply below_drew1) | exact HB.out))) : w.heap.size ≤ gb611)); clear HO_5; clear HO_45; clear HB; have HO_5 := n0_; have HO_45 := n1_; have HB := n2_; have BK611 := n3_; have GW611 := n4_; have GE611 := n5_; clear n0_ n1_ n2_ n3_ n4_ n5_; clear hb hbox hg; have hcz26_0 : w25.cell? ⟨gb611, 0, none⟩ = some (.int .i32 0) := (blk_cell BK611.out 0).trans rfl; have hcz26_1 : w25.cell? ⟨gb611, 1, none⟩ = some (.int .i32 0) := (blk_cell BK611.out 1).trans rfl; have hfz26_0 := blk_frozen BK611.out 0; have hfz26_1 := blk_frozen BK611.out 1)); try go_wp2_with (first | ((with_reducible refine gate_dst (N := 12) rfl ?_); refine box_event ?hg (N := 12) ?hd (cs := #[.int .i32 0, .int .i32 0]) (t := 46) ?hr ?_; (case hd => rfl); (case hg => rfl); (case hr => first | (go_simp; done) | (go_simp; rfl)); intro gb611 hg w25 hbox hb; have n0_ := Aside0.mk (Kd.R_below (Kd.R_elderB (by (with_reducible repeat (first | apply Kd.R_alloc | apply Kd.R_drewN | apply Kd.R_drew)); exact HO_5.out) gb611 (Nat.le_of_eq hg.symm)) hb); have n1_ := Aside0.mk (Kd.R_below (Kd.R_elderB (by (with_reducible repeat (first | apply Kd.R_alloc | apply Kd.R_drewN | apply Kd.R_drew)); exact HO_45.out) gb611 (Nat.le_of_eq hg.symm)) hb); have n2_ := Aside0.mk (below_step (by repeat (first | (with_reducible first | exact HB.out | apply below_alloc | apply pw_below_drewN | apply below_drew1) | exact HB.out)) hb); have n3_ := Aside0.mk (hbox); have n4_ := Aside0.mk ((by rw [hg]; exact (below_size (by repeat (first | (with_reducible first | exact HB.out | apply below_alloc | apply pw_below_drewN | apply below_drew1) | exact HB.out))) : w.heap.size ≤ gb611)); have n5_ := Aside0.mk ((by rw [hg]; exact (below_size (by repeat (first | (with_reducible first | exact HB.out | apply below_alloc | apply pw_below_drewN | apply below_drew1) | exact HB.out))) : w.heap.size ≤ gb611)); clear HO_5; clear HO_45; clear HB; have HO_5 := n0_; have HO_45 := n1_; have HB := n2_; have BK611 := n3_; have GW611 := n4_; have GE611 := n5_; clear n0_ n1_ n2_ n3_ n4_ n5_; clear hb hbox hg; have hcz26_0 : w25.cell? ⟨gb611, 0, none⟩ = some (.int .i32 0) := (blk_cell BK611.out 0).trans rfl; have hcz26_1 : w25.cell? ⟨gb611, 1, none⟩ = some (.int .i32 0) := (blk_cell BK611.out 1).trans rfl; have hfz26_0 := blk_frozen BK611.out 0; have hfz26_1 := blk_frozen BK611.out 1)))
                 go_roundg k3
                 case measure => have := HK1.out; have := HK2.out; have := HK3.out; omega
                 case rel => exact ⟨(true), (wrap64 (x47_3 + 1)), (by first | rfl | (simp; done) | (simp [*]; done)), (by first | rfl | (simp; done) | (simp [*]; done)), H', ⟨by have := HK1.out; have := HK2.out; have := HK3.out; omega⟩, ⟨by (with_reducible repeat (first | apply Kd.R_alloc | apply Kd.R_drewN | apply Kd.R_drew)); exact Kd.R_mono (Kd.R_far (p := ⟨gb611, 1, none⟩) (Kd.R_far (p := ⟨gb611, 0, none⟩) (Kd.R_mono HO_5.out (fun k_ hk => (⟨hk, hk.2⟩ : _ ∧ k_ ≠ gb611))) (fun _ hk => hk.2) (.int .i32 ((rd_T46 t601 x47_3).f0))) (fun _ hk => hk.2) (.int .i32 ((rd_T46 t601 x47_3).f1))) (fun _ hk => trivial)⟩, ⟨by (with_reducible repeat (first | apply Kd.R_alloc | apply Kd.R_drewN | apply Kd.R_drew)); exact Kd.R_mono (Kd.R_far (p := ⟨gb611, 1, none⟩) (Kd.R_far (p := ⟨gb611, 0, none⟩) (Kd.R_mono HO_45.out (fun k_ hk => (⟨hk, hk.2⟩ : _ ∧ k_ ≠ gb611))) (fun _ hk => hk.2) (.int .i32 ((rd_T46 t601 x47_3).f0))) (fun _ hk => hk.2) (.int .i32 ((rd_T46 t601 x47_3).f1))) (fun _ hk => trivial)⟩, ⟨by repeat (first | (with_reducible first | exact HB.out | apply below_alloc | apply pw_below_drewN | apply below_drew1 | refine below_set ?_ GE611.out) | exact HB.out)⟩⟩
                ·replace c24 := Bool.eq_false_iff.mpr c24
                 subst c24
                 have H1 : (if ((rd_T46 t601 x47_3).f0) ≤ (rd l1 x41_2) then (tremalaw02_UcdRanges.l2 k3 a0 t601 (rd l1 x41_2) (decide ((rd l1 x41_2) ≤ ((rd_T46 t601 x47_3).f1))) l1 (l1.length : Int) x41_2 t601 (t601.length : Int) (wrap64 (x47_3 + 1))) else (tremalaw02_UcdRanges.l2 k3 a0 t601 (rd l1 x41_2) false l1 (l1.length : Int) x41_2 t601 (t601.length : Int) (wrap64 (x47_3 + 1)))) = some r := by rw [if_neg (show ¬ (false = true) by decide)] at H; exact H
                 clear H
                 have H := H1
                 clear H1
                 by_cases c27 : ((rd_T46 t601 x47_3).f0) ≤ (rd l1 x41_2)
                 ·rw [if_pos c27] at H
                  have c27b0 : decide (((rd_T46 t601 x47_3).f0) ≤ (rd l1 x41_2)) = true := decide_eq_true c27
                  clear c27
                  have H' := Aside0.mk H
                  clear H
                  have p610 : 0 ≤ (x47_3 : Int) := of_decide_eq_true (by first | (with_reducible assumption) | assumption)
                  have q610 : x47_3 < (t601.length : Int) := of_decide_eq_true (by first | (with_reducible assumption) | assumption)
                  obtain ⟨ad610, e610, hx610_0, hx610_1⟩ := at_T46 (Kd.R_reads' HO_45.out).2.2 x47_3 p610 q610
                  cases e610
                  replace p610 := eq_true p610
                  replace q610 := eq_true q610
                  go_wp2_with (first | ((with_reducible refine gate_dst (N := 12) rfl ?_); refine box_event ?hg (N := 12) ?hd (cs := #[.int .i32 0, .int .i32 0]) (t := 46) ?hr ?_; (case hd => rfl); (case hg => rfl); (case hr => first | (go_simp; done) | (go_simp; rfl)); intro gb611 hg w28 hbox hb; have n0_ := Aside0.mk (Kd.R_below (Kd.R_elderB (by (with_reducible repeat (first | apply Kd.R_alloc | apply Kd.R_drewN | apply Kd.R_drew)); exact HO_5.out) gb611 (Nat.le_of_eq hg.symm)) hb); have n1_ := Aside0.mk (Kd.R_below (Kd.R_elderB (by (with_reducible repeat (first | apply Kd.R_alloc | apply Kd.R_drewN | apply Kd.R_drew)); exact HO_45.out) gb611 (Nat.le_of_eq hg.symm)) hb); have n2_ := Aside0.mk (below_step (by repeat (first | (with_reducible first | exact HB.out | apply below_alloc | apply pw_below_drewN | apply below_drew1) | exact HB.out)) hb); have n3_ := Aside0.mk (hbox); have n4_ := Aside0.mk ((by rw [hg]; exact (below_size (by repeat (first | (with_reducible first | exact HB.out | apply below_alloc | apply pw_below_drewN | apply below_drew1) | exact HB.out))) : w.heap.size ≤ gb611)); have n5_ := Aside0.mk ((by rw [hg]; exact (below_size (by repeat (first | (with_reducible first | exact HB.out | apply below_alloc | apply pw_below_drewN | apply below_drew1) | exact HB.out))) : w.heap.size ≤ gb611)); clear HO_5; clear HO_45; clear HB; have HO_5 := n0_; have HO_45 := n1_; have HB := n2_; have BK611 := n3_; have GW611 := n4_; have GE611 := n5_; clear n0_ n1_ n2_ n3_ n4_ n5_; clear hb hbox hg; have hcz29_0 : w28.cell? ⟨gb611, 0, none⟩ = some (.int .i32 0) := (blk_cell BK611.out 0).trans rfl; have hcz29_1 : w28.cell? ⟨gb611, 1, none⟩ = some (.int .i32 0) := (blk_cell BK611.out 1).trans rfl; have hfz29_0 := blk_frozen BK611.out 0; have hfz29_1 := blk_frozen BK611.out 1))
                  repeat (go_quiet (first | ((with_reducible refine gate_dst (N := 12) rfl ?_); refine box_event ?hg (N := 12) ?hd (cs := #[.int .i32 0, .int .i32 0]) (t := 46) ?hr ?_; (case hd => rfl); (case hg => rfl); (case hr => first | (go_simp; done) | (go_simp; rfl)); intro gb611 hg w28 hbox hb; have n0_ := Aside0.mk (Kd.R_below (Kd.R_elderB (by (with_reducible repeat (first | apply Kd.R_alloc | apply Kd.R_drewN | apply Kd.R_drew)); exact HO_5.out) gb611 (Nat.le_of_eq hg.symm)) hb); have n1_ := Aside0.mk (Kd.R_below (Kd.R_elderB (by (with_reducible repeat (first | apply Kd.R_alloc | apply Kd.R_drewN | apply Kd.R_drew)); exact HO_45.out) gb611 (Nat.le_of_eq hg.symm)) hb); have n2_ := Aside0.mk (below_step (by repeat (first | (with_reducible first | exact HB.out | apply below_alloc | apply pw_below_drewN | apply below_drew1) | exact HB.out)) hb); have n3_ := Aside0.mk (hbox); have n4_ := Aside0.mk ((by rw [hg]; exact (below_size (by repeat (first | (with_reducible first | exact HB.out | apply below_alloc | apply pw_below_drewN | apply below_drew1) | exact HB.out))) : w.heap.size ≤ gb611)); have n5_ := Aside0.mk ((by rw [hg]; exact (below_size (by repeat (first | (with_reducible first | exact HB.out | apply below_alloc | apply pw_below_drewN | apply below_drew1) | exact HB.out))) : w.heap.size ≤ gb611)); clear HO_5; clear HO_45; clear HB; have HO_5 := n0_; have HO_45 := n1_; have HB := n2_; have BK611 := n3_; have GW611 := n4_; have GE611 := n5_; clear n0_ n1_ n2_ n3_ n4_ n5_; clear hb hbox hg; have hcz29_0 : w28.cell? ⟨gb611, 0, none⟩ = some (.int .i32 0) := (blk_cell BK611.out 0).trans rfl; have hcz29_1 : w28.cell? ⟨gb611, 1, none⟩ = some (.int .i32 0) := (blk_cell BK611.out 1).trans rfl; have hfz29_0 := blk_frozen BK611.out 0; have hfz29_1 := blk_frozen BK611.out 1)); try go_wp2_with (first | ((with_reducible refine gate_dst (N := 12) rfl ?_); refine box_event ?hg (N := 12) ?hd (cs := #[.int .i32 0, .int .i32 0]) (t := 46) ?hr ?_; (case hd => rfl); (case hg => rfl); (case hr => first | (go_simp; done) | (go_simp; rfl)); intro gb611 hg w28 hbox hb; have n0_ := Aside0.mk (Kd.R_below (Kd.R_elderB (by (with_reducible repeat (first | apply Kd.R_alloc | apply Kd.R_drewN | apply Kd.R_drew)); exact HO_5.out) gb611 (Nat.le_of_eq hg.symm)) hb); have n1_ := Aside0.mk (Kd.R_below (Kd.R_elderB (by (with_reducible repeat (first | apply Kd.R_alloc | apply Kd.R_drewN | apply Kd.R_drew)); exact HO_45.out) gb611 (Nat.le_of_eq hg.symm)) hb); have n2_ := Aside0.mk (below_step (by repeat (first | (with_reducible first | exact HB.out | apply below_alloc | apply pw_below_drewN | apply below_drew1) | exact HB.out)) hb); have n3_ := Aside0.mk (hbox); have n4_ := Aside0.mk ((by rw [hg]; exact (below_size (by repeat (first | (with_reducible first | exact HB.out | apply below_alloc | apply pw_below_drewN | apply below_drew1) | exact HB.out))) : w.heap.size ≤ gb611)); have n5_ := Aside0.mk ((by rw [hg]; exact (below_size (by repeat (first | (with_reducible first | exact HB.out | apply below_alloc | apply pw_below_drewN | apply below_drew1) | exact HB.out))) : w.heap.size ≤ gb611)); clear HO_5; clear HO_45; clear HB; have HO_5 := n0_; have HO_45 := n1_; have HB := n2_; have BK611 := n3_; have GW611 := n4_; have GE611 := n5_; clear n0_ n1_ n2_ n3_ n4_ n5_; clear hb hbox hg; have hcz29_0 : w28.cell? ⟨gb611, 0, none⟩ = some (.int .i32 0) := (blk_cell BK611.out 0).trans rfl; have hcz29_1 : w28.cell? ⟨gb611, 1, none⟩ = some (.int .i32 0) := (blk_cell BK611.out 1).trans rfl; have hfz29_0 := blk_frozen BK611.out 0; have hfz29_1 := blk_frozen BK611.out 1)))
                  go_roundg k3
                  case measure => have := HK1.out; have := HK2.out; have := HK3.out; omega
                  case rel => exact ⟨(decide ((rd l1 x41_2) ≤ ((rd_T46 t601 x47_3).f1))), (wrap64 (x47_3 + 1)), (by first | rfl | (simp; done) | (simp [*]; done)), (by first | rfl | (simp; done) | (simp [*]; done)), H', ⟨by have := HK1.out; have := HK2.out; have := HK3.out; omega⟩, ⟨by (with_reducible repeat (first | apply Kd.R_alloc | apply Kd.R_drewN | apply Kd.R_drew)); exact Kd.R_mono (Kd.R_far (p := ⟨gb611, 1, none⟩) (Kd.R_far (p := ⟨gb611, 0, none⟩) (Kd.R_mono HO_5.out (fun k_ hk => (⟨hk, hk.2⟩ : _ ∧ k_ ≠ gb611))) (fun _ hk => hk.2) (.int .i32 ((rd_T46 t601 x47_3).f0))) (fun _ hk => hk.2) (.int .i32 ((rd_T46 t601 x47_3).f1))) (fun _ hk => trivial)⟩, ⟨by (with_reducible repeat (first | apply Kd.R_alloc | apply Kd.R_drewN | apply Kd.R_drew)); exact Kd.R_mono (Kd.R_far (p := ⟨gb611, 1, none⟩) (Kd.R_far (p := ⟨gb611, 0, none⟩) (Kd.R_mono HO_45.out (fun k_ hk => (⟨hk, hk.2⟩ : _ ∧ k_ ≠ gb611))) (fun _ hk => hk.2) (.int .i32 ((rd_T46 t601 x47_3).f0))) (fun _ hk => hk.2) (.int .i32 ((rd_T46 t601 x47_3).f1))) (fun _ hk => trivial)⟩, ⟨by repeat (first | (with_reducible first | exact HB.out | apply below_alloc | apply pw_below_drewN | apply below_drew1 | refine below_set ?_ GE611.out) | exact HB.out)⟩⟩
                 ·rw [if_neg c27] at H
                  have c27b0 : decide (((rd_T46 t601 x47_3).f0) ≤ (rd l1 x41_2)) = false := decide_eq_false c27
                  clear c27
                  have H' := Aside0.mk H
                  clear H
                  have p610 : 0 ≤ (x47_3 : Int) := of_decide_eq_true (by first | (with_reducible assumption) | assumption)
                  have q610 : x47_3 < (t601.length : Int) := of_decide_eq_true (by first | (with_reducible assumption) | assumption)
                  obtain ⟨ad610, e610, hx610_0, hx610_1⟩ := at_T46 (Kd.R_reads' HO_45.out).2.2 x47_3 p610 q610
                  cases e610
                  replace p610 := eq_true p610
                  replace q610 := eq_true q610
                  go_wp2_with (first | ((with_reducible refine gate_dst (N := 12) rfl ?_); refine box_event ?hg (N := 12) ?hd (cs := #[.int .i32 0, .int .i32 0]) (t := 46) ?hr ?_; (case hd => rfl); (case hg => rfl); (case hr => first | (go_simp; done) | (go_simp; rfl)); intro gb611 hg w30 hbox hb; have n0_ := Aside0.mk (Kd.R_below (Kd.R_elderB (by (with_reducible repeat (first | apply Kd.R_alloc | apply Kd.R_drewN | apply Kd.R_drew)); exact HO_5.out) gb611 (Nat.le_of_eq hg.symm)) hb); have n1_ := Aside0.mk (Kd.R_below (Kd.R_elderB (by (with_reducible repeat (first | apply Kd.R_alloc | apply Kd.R_drewN | apply Kd.R_drew)); exact HO_45.out) gb611 (Nat.le_of_eq hg.symm)) hb); have n2_ := Aside0.mk (below_step (by repeat (first | (with_reducible first | exact HB.out | apply below_alloc | apply pw_below_drewN | apply below_drew1) | exact HB.out)) hb); have n3_ := Aside0.mk (hbox); have n4_ := Aside0.mk ((by rw [hg]; exact (below_size (by repeat (first | (with_reducible first | exact HB.out | apply below_alloc | apply pw_below_drewN | apply below_drew1) | exact HB.out))) : w.heap.size ≤ gb611)); have n5_ := Aside0.mk ((by rw [hg]; exact (below_size (by repeat (first | (with_reducible first | exact HB.out | apply below_alloc | apply pw_below_drewN | apply below_drew1) | exact HB.out))) : w.heap.size ≤ gb611)); clear HO_5; clear HO_45; clear HB; have HO_5 := n0_; have HO_45 := n1_; have HB := n2_; have BK611 := n3_; have GW611 := n4_; have GE611 := n5_; clear n0_ n1_ n2_ n3_ n4_ n5_; clear hb hbox hg; have hcz31_0 : w30.cell? ⟨gb611, 0, none⟩ = some (.int .i32 0) := (blk_cell BK611.out 0).trans rfl; have hcz31_1 : w30.cell? ⟨gb611, 1, none⟩ = some (.int .i32 0) := (blk_cell BK611.out 1).trans rfl; have hfz31_0 := blk_frozen BK611.out 0; have hfz31_1 := blk_frozen BK611.out 1))
                  repeat (go_quiet (first | ((with_reducible refine gate_dst (N := 12) rfl ?_); refine box_event ?hg (N := 12) ?hd (cs := #[.int .i32 0, .int .i32 0]) (t := 46) ?hr ?_; (case hd => rfl); (case hg => rfl); (case hr => first | (go_simp; done) | (go_simp; rfl)); intro gb611 hg w30 hbox hb; have n0_ := Aside0.mk (Kd.R_below (Kd.R_elderB (by (with_reducible repeat (first | apply Kd.R_alloc | apply Kd.R_drewN | apply Kd.R_drew)); exact HO_5.out) gb611 (Nat.le_of_eq hg.symm)) hb); have n1_ := Aside0.mk (Kd.R_below (Kd.R_elderB (by (with_reducible repeat (first | apply Kd.R_alloc | apply Kd.R_drewN | apply Kd.R_drew)); exact HO_45.out) gb611 (Nat.le_of_eq hg.symm)) hb); have n2_ := Aside0.mk (below_step (by repeat (first | (with_reducible first | exact HB.out | apply below_alloc | apply pw_below_drewN | apply below_drew1) | exact HB.out)) hb); have n3_ := Aside0.mk (hbox); have n4_ := Aside0.mk ((by rw [hg]; exact (below_size (by repeat (first | (with_reducible first | exact HB.out | apply below_alloc | apply pw_below_drewN | apply below_drew1) | exact HB.out))) : w.heap.size ≤ gb611)); have n5_ := Aside0.mk ((by rw [hg]; exact (below_size (by repeat (first | (with_reducible first | exact HB.out | apply below_alloc | apply pw_below_drewN | apply below_drew1) | exact HB.out))) : w.heap.size ≤ gb611)); clear HO_5; clear HO_45; clear HB; have HO_5 := n0_; have HO_45 := n1_; have HB := n2_; have BK611 := n3_; have GW611 := n4_; have GE611 := n5_; clear n0_ n1_ n2_ n3_ n4_ n5_; clear hb hbox hg; have hcz31_0 : w30.cell? ⟨gb611, 0, none⟩ = some (.int .i32 0) := (blk_cell BK611.out 0).trans rfl; have hcz31_1 : w30.cell? ⟨gb611, 1, none⟩ = some (.int .i32 0) := (blk_cell BK611.out 1).trans rfl; have hfz31_0 := blk_frozen BK611.out 0; have hfz31_1 := blk_frozen BK611.out 1)); try go_wp2_with (first | ((with_reducible refine gate_dst (N := 12) rfl ?_); refine box_event ?hg (N := 12) ?hd (cs := #[.int .i32 0, .int .i32 0]) (t := 46) ?hr ?_; (case hd => rfl); (case hg => rfl); (case hr => first | (go_simp; done) | (go_simp; rfl)); intro gb611 hg w30 hbox hb; have n0_ := Aside0.mk (Kd.R_below (Kd.R_elderB (by (with_reducible repeat (first | apply Kd.R_alloc | apply Kd.R_drewN | apply Kd.R_drew)); exact HO_5.out) gb611 (Nat.le_of_eq hg.symm)) hb); have n1_ := Aside0.mk (Kd.R_below (Kd.R_elderB (by (with_reducible repeat (first | apply Kd.R_alloc | apply Kd.R_drewN | apply Kd.R_drew)); exact HO_45.out) gb611 (Nat.le_of_eq hg.symm)) hb); have n2_ := Aside0.mk (below_step (by repeat (first | (with_reducible first | exact HB.out | apply below_alloc | apply pw_below_drewN | apply below_drew1) | exact HB.out)) hb); have n3_ := Aside0.mk (hbox); have n4_ := Aside0.mk ((by rw [hg]; exact (below_size (by repeat (first | (with_reducible first | exact HB.out | apply below_alloc | apply pw_below_drewN | apply below_drew1) | exact HB.out))) : w.heap.size ≤ gb611)); have n5_ := Aside0.mk ((by rw [hg]; exact (below_size (by repeat (first | (with_reducible first | exact HB.out | apply below_alloc | apply pw_below_drewN | apply below_drew1) | exact HB.out))) : w.heap.size ≤ gb611)); clear HO_5; clear HO_45; clear HB; have HO_5 := n0_; have HO_45 := n1_; have HB := n2_; have BK611 := n3_; have GW611 := n4_; have GE611 := n5_; clear n0_ n1_ n2_ n3_ n4_ n5_; clear hb hbox hg; have hcz31_0 : w30.cell? ⟨gb611, 0, none⟩ = some (.int .i32 0) := (blk_cell BK611.out 0).trans rfl; have hcz31_1 : w30.cell? ⟨gb611, 1, none⟩ = some (.int .i32 0) := (blk_cell BK611.out 1).trans rfl; have hfz31_0 := blk_frozen BK611.out 0; have hfz31_1 := blk_frozen BK611.out 1)))
                  go_roundg k3
                  case measure => have := HK1.out; have := HK2.out; have := HK3.out; omega
                  case rel => exact ⟨(false), (wrap64 (x47_3 + 1)), (by first | rfl | (simp; done) | (simp [*]; done)), (by first | rfl | (simp; done) | (simp [*]; done)), H', ⟨by have := HK1.out; have := HK2.out; have := HK3.out; omega⟩, ⟨by (with_reducible repeat (first | apply Kd.R_alloc | apply Kd.R_drewN | apply Kd.R_drew)); exact Kd.R_mono (Kd.R_far (p := ⟨gb611, 1, none⟩) (Kd.R_far (p := ⟨gb611, 0, none⟩) (Kd.R_mono HO_5.out (fun k_ hk => (⟨hk, hk.2⟩ : _ ∧ k_ ≠ gb611))) (fun _ hk => hk.2) (.int .i32 ((rd_T46 t601 x47_3).f0))) (fun _ hk => hk.2) (.int .i32 ((rd_T46 t601 x47_3).f1))) (fun _ hk => trivial)⟩, ⟨by (with_reducible repeat (first | apply Kd.R_alloc | apply Kd.R_drewN | apply Kd.R_drew)); exact Kd.R_mono (Kd.R_far (p := ⟨gb611, 1, none⟩) (Kd.R_far (p := ⟨gb611, 0, none⟩) (Kd.R_mono HO_45.out (fun k_ hk => (⟨hk, hk.2⟩ : _ ∧ k_ ≠ gb611))) (fun _ hk => hk.2) (.int .i32 ((rd_T46 t601 x47_3).f0))) (fun _ hk => hk.2) (.int .i32 ((rd_T46 t601 x47_3).f1))) (fun _ hk => trivial)⟩, ⟨by repeat (first | (with_reducible first | exact HB.out | apply below_alloc | apply pw_below_drewN | apply below_drew1 | refine below_set ?_ GE611.out) | exact HB.out)⟩⟩
               ·rw [if_neg c23] at H
                exact absurd H (by simp)
              ·rw [if_neg c22] at H
               exact absurd H (by simp)
             ·rw [if_neg c21] at H
              have c21b0 : decide (x47_3 < (t601.length : Int)) = false := decide_eq_false c21
              clear c21
              by_cases c32 : (rd l1 x41_2) ≥ 0
              ·rw [if_pos c32] at H
               have c32b0 : decide (0 ≤ (rd l1 x41_2)) = true := decide_eq_true c32
               clear c32
               by_cases c33 : (rd l1 x41_2) ≤ 1114111
               ·rw [if_pos c33] at H
                have c33b0 : decide ((rd l1 x41_2) ≤ 1114111) = true := decide_eq_true c33
                clear c33
                replace H := Option.bind_eq_some_iff.mp H
                obtain ⟨t612, A340, H⟩ := H
                replace H : (if (x10_3 != (t612 == a0)) = true then (some false) else (tremalaw02_UcdRanges.l1 k3 a0 t601 l1 (l1.length : Int) (wrap64 (x41_2 + 1)))) = some r := H
                have A34 := Aside0.mk A340
                clear A340
                by_cases c35 : (x10_3 != (t612 == a0)) = true
                ·rw [if_pos c35] at H
                 have c35b0 : (x10_3 != (t612 == a0)) = true := c35
                 (try (have c35b1 : decide (x10_3 = (t612 == a0)) = false := by simpa using c35))
                 (try (have c35b2 : (x10_3 == (t612 == a0)) = false := by simpa using c35))
                 (try (have c35b3 : ¬ (x10_3 = (t612 == a0)) := by simpa using c35))
                 clear c35
                 obtain rfl := Option.some.inj H
                 go_wp2_with (first | (go_at_call 25; (with_reducible refine (ucd_Category.calls (rd l1 x41_2) t612 _ A34.out).mono ?_); rintro e w36 ⟨rfl, hb⟩; have n0_ := Aside0.mk (Kd.R_below (by (with_reducible repeat (first | apply Kd.R_alloc | apply Kd.R_drewN | apply Kd.R_drew)); exact HO_5.out) hb); have n1_ := Aside0.mk (Kd.R_below (by (with_reducible repeat (first | apply Kd.R_alloc | apply Kd.R_drewN | apply Kd.R_drew)); exact HO_45.out) hb); have n2_ := Aside0.mk (below_step (by repeat (first | (with_reducible first | exact HB.out | apply below_alloc | apply pw_below_drewN | apply below_drew1) | exact HB.out)) hb); clear HO_5; clear HO_45; clear HB; have HO_5 := n0_; have HO_45 := n1_; have HB := n2_; clear n0_ n1_ n2_; (try clear hb); (try clear hb2); (try clear hk); (try clear hi)))
                 repeat (go_quiet (first | (go_at_call 25; (with_reducible refine (ucd_Category.calls (rd l1 x41_2) t612 _ A34.out).mono ?_); rintro e w36 ⟨rfl, hb⟩; have n0_ := Aside0.mk (Kd.R_below (by (with_reducible repeat (first | apply Kd.R_alloc | apply Kd.R_drewN | apply Kd.R_drew)); exact HO_5.out) hb); have n1_ := Aside0.mk (Kd.R_below (by (with_reducible repeat (first | apply Kd.R_alloc | apply Kd.R_drewN | apply Kd.R_drew)); exact HO_45.out) hb); have n2_ := Aside0.mk (below_step (by repeat (first | (with_reducible first | exact HB.out | apply below_alloc | apply pw_below_drewN | apply below_drew1) | exact HB.out)) hb); clear HO_5; clear HO_45; clear HB; have HO_5 := n0_; have HO_45 := n1_; have HB := n2_; clear n0_ n1_ n2_; (try clear hb); (try clear hb2); (try clear hk); (try clear hi))); try go_wp2_with (first | (go_at_call 25; (with_reducible refine (ucd_Category.calls (rd l1 x41_2) t612 _ A34.out).mono ?_); rintro e w36 ⟨rfl, hb⟩; have n0_ := Aside0.mk (Kd.R_below (by (with_reducible repeat (first | apply Kd.R_alloc | apply Kd.R_drewN | apply Kd.R_drew)); exact HO_5.out) hb); have n1_ := Aside0.mk (Kd.R_below (by (with_reducible repeat (first | apply Kd.R_alloc | apply Kd.R_drewN | apply Kd.R_drew)); exact HO_45.out) hb); have n2_ := Aside0.mk (below_step (by repeat (first | (with_reducible first | exact HB.out | apply below_alloc | apply pw_below_drewN | apply below_drew1) | exact HB.out)) hb); clear HO_5; clear HO_45; clear HB; have HO_5 := n0_; have HO_45 := n1_; have HB := n2_; clear n0_ n1_ n2_; (try clear hb); (try clear hb2); (try clear hk); (try clear hi))))
                 go_ret
                 exact ⟨by first | rfl | (simp [errW_none, errW_some] <;> rfl) | (simp [*, errW_none, errW_some] <;> rfl), by repeat (first | (with_reducible first | exact HB.out | apply below_alloc | apply pw_below_drewN | apply below_drew1) | exact HB.out)⟩
                ·rw [if_neg c35] at H
                 have c35b0 : (x10_3 != (t612 == a0)) = false := by simpa using c35
                 (try (have c35b1 : decide (x10_3 = (t612 == a0)) = true := by simpa using c35))
                 (try (have c35b2 : (x10_3 == (t612 == a0)) = true := by simpa using c35))
                 clear c35
                 have H' := Aside0.mk H
                 clear H
                 go_wp2_with (first | (go_at_call 25; (with_reducible refine (ucd_Category.calls (rd l1 x41_2) t612 _ A34.out).mono ?_); rintro e w37 ⟨rfl, hb⟩; have n0_ := Aside0.mk (Kd.R_below (by (with_reducible repeat (first | apply Kd.R_alloc | apply Kd.R_drewN | apply Kd.R_drew)); exact HO_5.out) hb); have n1_ := Aside0.mk (Kd.R_below (by (with_reducible repeat (first | apply Kd.R_alloc | apply Kd.R_drewN | apply Kd.R_drew)); exact HO_45.out) hb); have n2_ := Aside0.mk (below_step (by repeat (first | (with_reducible first | exact HB.out | apply below_alloc | apply pw_below_drewN | apply below_drew1) | exact HB.out)) hb); clear HO_5; clear HO_45; clear HB; have HO_5 := n0_; have HO_45 := n1_; have HB := n2_; clear n0_ n1_ n2_; (try clear hb); (try clear hb2); (try clear hk); (try clear hi)))
                 repeat (go_quiet (first | (go_at_call 25; (with_reducible refine (ucd_Category.calls (rd l1 x41_2) t612 _ A34.out).mono ?_); rintro e w37 ⟨rfl, hb⟩; have n0_ := Aside0.mk (Kd.R_below (by (with_reducible repeat (first | apply Kd.R_alloc | apply Kd.R_drewN | apply Kd.R_drew)); exact HO_5.out) hb); have n1_ := Aside0.mk (Kd.R_below (by (with_reducible repeat (first | apply Kd.R_alloc | apply Kd.R_drewN | apply Kd.R_drew)); exact HO_45.out) hb); have n2_ := Aside0.mk (below_step (by repeat (first | (with_reducible first | exact HB.out | apply below_alloc | apply pw_below_drewN | apply below_drew1) | exact HB.out)) hb); clear HO_5; clear HO_45; clear HB; have HO_5 := n0_; have HO_45 := n1_; have HB := n2_; clear n0_ n1_ n2_; (try clear hb); (try clear hb2); (try clear hk); (try clear hi))); try go_wp2_with (first | (go_at_call 25; (with_reducible refine (ucd_Category.calls (rd l1 x41_2) t612 _ A34.out).mono ?_); rintro e w37 ⟨rfl, hb⟩; have n0_ := Aside0.mk (Kd.R_below (by (with_reducible repeat (first | apply Kd.R_alloc | apply Kd.R_drewN | apply Kd.R_drew)); exact HO_5.out) hb); have n1_ := Aside0.mk (Kd.R_below (by (with_reducible repeat (first | apply Kd.R_alloc | apply Kd.R_drewN | apply Kd.R_drew)); exact HO_45.out) hb); have n2_ := Aside0.mk (below_step (by repeat (first | (with_reducible first | exact HB.out | apply below_alloc | apply pw_below_drewN | apply below_drew1) | exact HB.out)) hb); clear HO_5; clear HO_45; clear HB; have HO_5 := n0_; have HO_45 := n1_; have HB := n2_; clear n0_ n1_ n2_; (try clear hb); (try clear hb2); (try clear hk); (try clear hi))))
                 go_roundg k3
                 case measure => have := HK1.out; have := HK2.out; have := HK3.out; omega
                 case rel => exact ⟨(wrap64 (x41_2 + 1)), (by first | rfl | (simp; done) | (simp [*]; done)), H', ⟨by have := HK1.out; have := HK2.out; have := HK3.out; omega⟩, ⟨by (with_reducible repeat (first | apply Kd.R_alloc | apply Kd.R_drewN | apply Kd.R_drew)); exact HO_5.out⟩, ⟨by repeat (first | (with_reducible first | exact HB.out | apply below_alloc | apply pw_below_drewN | apply below_drew1) | exact HB.out)⟩⟩
               ·rw [if_neg c33] at H
                have c33b0 : decide ((rd l1 x41_2) ≤ 1114111) = false := decide_eq_false c33
                clear c33
                have H' := Aside0.mk H
                clear H
                go_wp2
                repeat (go_quiet (fail); try go_wp2)
                go_roundg k3
                case measure => have := HK1.out; have := HK2.out; have := HK3.out; omega
                case rel => exact ⟨(wrap64 (x41_2 + 1)), (by first | rfl | (simp; done) | (simp [*]; done)), H', ⟨by have := HK1.out; have := HK2.out; have := HK3.out; omega⟩, ⟨by (with_reducible repeat (first | apply Kd.R_alloc | apply Kd.R_drewN | apply Kd.R_drew)); exact HO_5.out⟩, ⟨by repeat (first | (with_reducible first | exact HB.out | apply below_alloc | apply pw_below_drewN | apply below_drew1) | exact HB.out)⟩⟩
              ·rw [if_neg c32] at H
               have c32b0 : decide (0 ≤ (rd l1 x41_2)) = false := decide_eq_false c32
               clear c32
               have H' := Aside0.mk H
               clear H
               go_wp2
               repeat (go_quiet (fail); try go_wp2)
               go_roundg k3
               case measure => have := HK1.out; have := HK2.out; have := HK3.out; omega
               case rel => exact ⟨(wrap64 (x41_2 + 1)), (by first | rfl | (simp; done) | (simp [*]; done)), H', ⟨by have := HK1.out; have := HK2.out; have := HK3.out; omega⟩, ⟨by (with_reducible repeat (first | apply Kd.R_alloc | apply Kd.R_drewN | apply Kd.R_drew)); exact HO_5.out⟩, ⟨by repeat (first | (with_reducible first | exact HB.out | apply below_alloc | apply pw_below_drewN | apply below_drew1) | exact HB.out)⟩⟩
          ·rw [if_neg c20] at H
           exact absurd H (by simp)
         ·rw [if_neg c19] at H
          exact absurd H (by simp)
        ·rw [if_neg c18] at H
         have c18b0 : decide (x41_2 < (l1.length : Int)) = false := decide_eq_false c18
         clear c18
         obtain rfl := Option.some.inj H
         go_wp2
         repeat (go_quiet (fail); try go_wp2)
         go_ret
         exact ⟨by first | rfl | (simp [errW_none, errW_some] <;> rfl) | (simp [*, errW_none, errW_some] <;> rfl), by repeat (first | (with_reducible first | exact HB.out | apply below_alloc | apply pw_below_drewN | apply below_drew1) | exact HB.out)⟩
  ·rw [if_neg c7] at H
   have c7b0 : ((t601.length : Int) == (t604.length : Int)) = false := beq_eq_false_iff_ne.mpr c7
   have c7b1 : ((t601.length : Int) != (t604.length : Int)) = true := bne_iff_ne.mpr c7
   have c7b2 : (t601.length == t604.length) = false := by first | simpa using c7 | (simp at c7 ⊢; omega)
   obtain rfl := Option.some.inj H
   go_enter Tryd.func5, Tryd.ntmps5
   go_wp2_with (first | (go_at_call 22; (with_reducible refine (tremalaw02_fixed.calls k  true _ A3.out (by first | exact HG.out | exact Va.G.below HG.out (by repeat (first | (with_reducible first | exact HB.out | apply below_alloc | apply pw_below_drewN | apply below_drew1) | exact HB.out)))).mono ?_); rintro e w38 ⟨rfl, hb⟩; have n0_ := Aside0.mk (below_step (by repeat (first | (with_reducible first | exact HB.out | apply below_alloc | apply pw_below_drewN | apply below_drew1) | exact HB.out)) hb); clear HB; have HB := n0_; clear n0_; (try clear hb); (try clear hb2); (try clear hk); (try clear hi)) | (go_at_call 23; (with_reducible refine (ucd_Ranges.calls a0 t601 _ A5.out).mono ?_); rintro e w39 ⟨v602, rfl, ho0, hb⟩; have n0_ := Aside0.mk (Kd.R_lower ho0 (below_size (by repeat (first | (with_reducible first | exact HB.out | apply below_alloc | apply pw_below_drewN | apply below_drew1) | exact HB.out)))); have n1_ := Aside0.mk (below_step (by repeat (first | (with_reducible first | exact HB.out | apply below_alloc | apply pw_below_drewN | apply below_drew1) | exact HB.out)) hb); clear HB; have HO603 := n0_; have HB := n1_; clear n0_ n1_; (try clear hb); (try clear hb2); (try clear hk); (try clear hi); (try clear ho0)) | (go_at_call 24; (with_reducible refine (tremaref02_Ranges.calls k a0 t604 _ A6.out).mono ?_); rintro e w40 ⟨v605, rfl, ho0, hb⟩; have n0_ := Aside0.mk (Kd.R_elder' (by (with_reducible repeat (first | apply Kd.R_alloc | apply Kd.R_drewN | apply Kd.R_drew)); exact HO603.out) (Kd.R_base ho0) hb); have n1_ := Aside0.mk (Kd.R_lower (Kd.R_new' ho0 (Kd.R_lt (by (with_reducible repeat (first | apply Kd.R_alloc | apply Kd.R_drewN | apply Kd.R_drew)); exact HO603.out))) (below_size (by repeat (first | (with_reducible first | exact HB.out | apply below_alloc | apply pw_below_drewN | apply below_drew1) | exact HB.out)))); have n2_ := Aside0.mk (below_step (by repeat (first | (with_reducible first | exact HB.out | apply below_alloc | apply pw_below_drewN | apply below_drew1) | exact HB.out)) hb); clear HO603; clear HB; have HO603 := n0_; have HO606 := n1_; have HB := n2_; clear n0_ n1_ n2_; (try clear hb); (try clear hb2); (try clear hk); (try clear hi); (try clear ho0); obtain ⟨Ao41, co41, eo41⟩ := Kd.R_slice HO603.out; subst eo41; obtain ⟨Ao42, co42, eo42⟩ := Kd.R_slice HO606.out; subst eo42))
   repeat (go_quiet (first | (go_at_call 22; (with_reducible refine (tremalaw02_fixed.calls k  true _ A3.out (by first | exact HG.out | exact Va.G.below HG.out (by repeat (first | (with_reducible first | exact HB.out | apply below_alloc | apply pw_below_drewN | apply below_drew1) | exact HB.out)))).mono ?_); rintro e w38 ⟨rfl, hb⟩; have n0_ := Aside0.mk (below_step (by repeat (first | (with_reducible first | exact HB.out | apply below_alloc | apply pw_below_drewN | apply below_drew1) | exact HB.out)) hb); clear HB; have HB := n0_; clear n0_; (try clear hb); (try clear hb2); (try clear hk); (try clear hi)) | (go_at_call 23; (with_reducible refine (ucd_Ranges.calls a0 t601 _ A5.out).mono ?_); rintro e w39 ⟨v602, rfl, ho0, hb⟩; have n0_ := Aside0.mk (Kd.R_lower ho0 (below_size (by repeat (first | (with_reducible first | exact HB.out | apply below_alloc | apply pw_below_drewN | apply below_drew1) | exact HB.out)))); have n1_ := Aside0.mk (below_step (by repeat (first | (with_reducible first | exact HB.out | apply below_alloc | apply pw_below_drewN | apply below_drew1) | exact HB.out)) hb); clear HB; have HO603 := n0_; have HB := n1_; clear n0_ n1_; (try clear hb); (try clear hb2); (try clear hk); (try clear hi); (try clear ho0)) | (go_at_call 24; (with_reducible refine (tremaref02_Ranges.calls k a0 t604 _ A6.out).mono ?_); rintro e w40 ⟨v605, rfl, ho0, hb⟩; have n0_ := Aside0.mk (Kd.R_elder' (by (with_reducible repeat (first | apply Kd.R_alloc | apply Kd.R_drewN | apply Kd.R_drew)); exact HO603.out) (Kd.R_base ho0) hb); have n1_ := Aside0.mk (Kd.R_lower (Kd.R_new' ho0 (Kd.R_lt (by (with_reducible repeat (first | apply Kd.R_alloc | apply Kd.R_drewN | apply Kd.R_drew)); exact HO603.out))) (below_size (by repeat (first | (with_reducible first | exact HB.out | apply below_alloc | apply pw_below_drewN | apply below_drew1) | exact HB.out)))); have n2_ := Aside0.mk (below_step (by repeat (first | (with_reducible first | exact HB.out | apply below_alloc | apply pw_below_drewN | apply below_drew1) | exact HB.out)) hb); clear HO603; clear HB; have HO603 := n0_; have HO606 := n1_; have HB := n2_; clear n0_ n1_ n2_; (try clear hb); (try clear hb2); (try clear hk); (try clear hi); (try clear ho0); obtain ⟨Ao41, co41, eo41⟩ := Kd.R_slice HO603.out; subst eo41; obtain ⟨Ao42, co42, eo42⟩ := Kd.R_slice HO606.out; subst eo42)); try go_wp2_with (first | (go_at_call 22; (with_reducible refine (tremalaw02_fixed.calls k  true _ A3.out (by first | exact HG.out | exact Va.G.below HG.out (by repeat (first | (with_reducible first | exact HB.out | apply below_alloc | apply pw_below_drewN | apply below_drew1) | exact HB.out)))).mono ?_); rintro e w38 ⟨rfl, hb⟩; have n0_ := Aside0.mk (below_step (by repeat (first | (with_reducible first | exact HB.out | apply below_alloc | apply pw_below_drewN | apply below_drew1) | exact HB.out)) hb); clear HB; have HB := n0_; clear n0_; (try clear hb); (try clear hb2); (try clear hk); (try clear hi)) | (go_at_call 23; (with_reducible refine (ucd_Ranges.calls a0 t601 _ A5.out).mono ?_); rintro e w39 ⟨v602, rfl, ho0, hb⟩; have n0_ := Aside0.mk (Kd.R_lower ho0 (below_size (by repeat (first | (with_reducible first | exact HB.out | apply below_alloc | apply pw_below_drewN | apply below_drew1) | exact HB.out)))); have n1_ := Aside0.mk (below_step (by repeat (first | (with_reducible first | exact HB.out | apply below_alloc | apply pw_below_drewN | apply below_drew1) | exact HB.out)) hb); clear HB; have HO603 := n0_; have HB := n1_; clear n0_ n1_; (try clear hb); (try clear hb2); (try clear hk); (try clear hi); (try clear ho0)) | (go_at_call 24; (with_reducible refine (tremaref02_Ranges.calls k a0 t604 _ A6.out).mono ?_); rintro e w40 ⟨v605, rfl, ho0, hb⟩; have n0_ := Aside0.mk (Kd.R_elder' (by (with_reducible repeat (first | apply Kd.R_alloc | apply Kd.R_drewN | apply Kd.R_drew)); exact HO603.out) (Kd.R_base ho0) hb); have n1_ := Aside0.mk (Kd.R_lower (Kd.R_new' ho0 (Kd.R_lt (by (with_reducible repeat (first | apply Kd.R_alloc | apply Kd.R_drewN | apply Kd.R_drew)); exact HO603.out))) (below_size (by repeat (first | (with_reducible first | exact HB.out | apply below_alloc | apply pw_below_drewN | apply below_drew1) | exact HB.out)))); have n2_ := Aside0.mk (below_step (by repeat (first | (with_reducible first | exact HB.out | apply below_alloc | apply pw_below_drewN | apply below_drew1) | exact HB.out)) hb); clear HO603; clear HB; have HO603 := n0_; have HO606 := n1_; have HB := n2_; clear n0_ n1_ n2_; (try clear hb); (try clear hb2); (try clear hk); (try clear hi); (try clear ho0); obtain ⟨Ao41, co41, eo41⟩ := Kd.R_slice HO603.out; subst eo41; obtain ⟨Ao42, co42, eo42⟩ := Kd.R_slice HO606.out; subst eo42)))
   go_ret
   exact ⟨by first | rfl | (simp [errW_none, errW_some] <;> rfl) | (simp [*, errW_none, errW_some] <;> rfl), by repeat (first | (with_reducible first | exact HB.out | apply below_alloc | apply pw_below_drewN | apply below_drew1) | exact HB.out)⟩
 ·replace c4 := Bool.eq_false_iff.mpr c4
  subst c4
  have H1 : (some false) = some r := by rw [if_neg (show ¬ (false = true) by decide)] at H; exact H
  clear H
  have H := H1
  clear H1
  obtain rfl := Option.some.inj H
  go_enter Tryd.func5, Tryd.ntmps5
  go_wp2_with (first | (go_at_call 22; (with_reducible refine (tremalaw02_fixed.calls k  false _ A3.out (by first | exact HG.out | exact Va.G.below HG.out (by repeat (first | (with_reducible first | exact HB.out | apply below_alloc | apply pw_below_drewN | apply below_drew1) | exact HB.out)))).mono ?_); rintro e w43 ⟨rfl, hb⟩; have n0_ := Aside0.mk (below_step (by repeat (first | (with_reducible first | exact HB.out | apply below_alloc | apply pw_below_drewN | apply below_drew1) | exact HB.out)) hb); clear HB; have HB := n0_; clear n0_; (try clear hb); (try clear hb2); (try clear hk); (try clear hi)))
  repeat (go_quiet (first | (go_at_call 22; (with_reducible refine (tremalaw02_fixed.calls k  false _ A3.out (by first | exact HG.out | exact Va.G.below HG.out (by repeat (first | (with_reducible first | exact HB.out | apply below_alloc | apply pw_below_drewN | apply below_drew1) | exact HB.out)))).mono ?_); rintro e w43 ⟨rfl, hb⟩; have n0_ := Aside0.mk (below_step (by repeat (first | (with_reducible first | exact HB.out | apply below_alloc | apply pw_below_drewN | apply below_drew1) | exact HB.out)) hb); clear HB; have HB := n0_; clear n0_; (try clear hb); (try clear hb2); (try clear hk); (try clear hi))); try go_wp2_with (first | (go_at_call 22; (with_reducible refine (tremalaw02_fixed.calls k  false _ A3.out (by first | exact HG.out | exact Va.G.below HG.out (by repeat (first | (with_reducible first | exact HB.out | apply below_alloc | apply pw_below_drewN | apply below_drew1) | exact HB.out)))).mono ?_); rintro e w43 ⟨rfl, hb⟩; have n0_ := Aside0.mk (below_step (by repeat (first | (with_reducible first | exact HB.out | apply below_alloc | apply pw_below_drewN | apply below_drew1) | exact HB.out)) hb); clear HB; have HB := n0_; clear n0_; (try clear hb); (try clear hb2); (try clear hk); (try clear hi))))
  go_ret
  exact ⟨by first | rfl | (simp [errW_none, errW_some] <;> rfl) | (simp [*, errW_none, errW_some] <;> rfl), by repeat (first | (with_reducible first | exact HB.out | apply below_alloc | apply pw_below_drewN | apply below_drew1) | exact HB.out)⟩
end Go.Proofs.YthffpkdadffinaaDoor.X
namespace Go.Proofs.YthffpkdadffinaaDoor.Vkq
set_option linter.unusedVariables false
set_option linter.unusedSimpArgs false
open Go.RowKit Go.Proofs.YthffpkdadffinaaDoorW.PrintWords Go.Proofs.YthffpkdadffinaaDoor.Ev0 Go.Proofs.YthffpkdadffinaaDoor.X Go.Proofs.YthffpkdadffinaaDoor.Vin Go.Proofs.YthffpkdadffinaaDoor.Vb Go.Proofs.YthffpkdadffinaaDoor.Vk0 Go.Proofs.YthffpkdadffinaaDoor.Vkr
theorem lst_none (c : Int) (h : ¬ (1 ≤ c ∧ c ≤ 6)) : lst c = [] := by
  have e := lst_any c
  unfold ucd_listed.f at e
  rw [if_neg (by omega), if_neg (by omega), if_neg (by omega), if_neg (by omega), if_neg (by omega), if_neg (by omega)] at e
  exact (Option.some.inj e).symm
theorem refRangesEv (c : Int) : Ev (fun k => tremaref02_Ranges.f k c) (rgs c) := by
  by_cases h : 1 ≤ c ∧ c ≤ 7
  · have : c = 1 ∨ c = 2 ∨ c = 3 ∨ c = 4 ∨ c = 5 ∨ c = 6 ∨ c = 7 := by omega
    rcases this with rfl | rfl | rfl | rfl | rfl | rfl | rfl
    · exact Ev.of (tremaref02_Ranges.mono 1) rr1
    · exact Ev.of (tremaref02_Ranges.mono 2) rr2
    · exact Ev.of (tremaref02_Ranges.mono 3) rr3
    · exact Ev.of (tremaref02_Ranges.mono 4) rr4
    · exact Ev.of (tremaref02_Ranges.mono 5) rr5
    · exact Ev.of (tremaref02_Ranges.mono 6) rr6
    · exact Ev.of (tremaref02_Ranges.mono 7) rr7
  · have e : rgs c = [] := by unfold rgs; rw [if_neg (by omega), lst_none c (by omega)]
    rw [e]
    unfold tremaref02_Ranges.f
    by_cases h1 : c < 1
    · simp only [if_pos h1]
      refine Ev.step (fun k => tremaref02_Ranges.j0.eq_2 ..) ?_
      simp only [if_true]
      exact Ev.now _
    · simp only [if_neg h1]
      refine Ev.step (fun k => tremaref02_Ranges.j0.eq_2 ..) ?_
      rw [decide_eq_true (show c > 7 by omega)]
      simp only [if_true]
      exact Ev.now _
def rgB : List Int := 0 :: 1114112 :: Vcy.catB
theorem catF_range (r : Int) : ∀ (m k : Nat), (catF r m k = 7) ∨ ((k : Int) ≤ catF r m k ∧ catF r m k < (k : Int) + m)
  | 0, _ => .inl rfl
  | m + 1, k => by
    rw [catF]
    split
    · right; omega
    · rcases catF_range r m (k + 1) with h | h
      · exact .inl h
      · right; omega
theorem rgs_in : ∀ c ∈ [(1 : Int), 2, 3, 4, 5, 6, 7], ∀ p ∈ rgs c, p.f0 ∈ rgB ∧ p.f1 + 1 ∈ rgB := by decide +kernel
theorem rgs_at : ∀ x ∈ -1 :: rgB, 0 ≤ x → x < 1114112 → ∀ c ∈ [(1 : Int), 2, 3, 4, 5, 6, 7], (rgs c).any (inR x) = (cat x == c) := by decide +kernel
theorem any_alike {B : List Int} {r x : Int} (hx : AlikeB B r x) : ∀ l : List SR, (∀ p ∈ l, p.f0 ∈ B ∧ p.f1 + 1 ∈ B) → l.any (inR r) = l.any (inR x)
  | [], _ => rfl
  | p :: t, h => by
    have h1 := h p (List.mem_cons_self ..)
    have a1 := hx _ h1.1
    have a2 := hx _ h1.2
    rw [List.any_cons, List.any_cons, any_alike hx t (fun q hq => h q (List.mem_cons_of_mem _ hq))]
    congr 1
    unfold inR
    congr 1
    · rw [decide_eq_decide]; omega
    · rw [decide_eq_decide]; omega
theorem rgs_cat (r c : Int) (h0 : 0 ≤ r) (h1 : r ≤ 1114111) : (rgs c).any (inR r) = (cat r == c) := by
  by_cases h : 1 ≤ c ∧ c ≤ 7
  · have hc : c ∈ [(1 : Int), 2, 3, 4, 5, 6, 7] := by
      have : c = 1 ∨ c = 2 ∨ c = 3 ∨ c = 4 ∨ c = 5 ∨ c = 6 ∨ c = 7 := by omega
      simpa using this
    obtain ⟨x, hx1, hx⟩ := rep rgB r (by decide +kernel)
    have a0 := hx 0 (List.mem_cons_self ..)
    have a1 := hx 1114112 (List.mem_cons_of_mem _ (List.mem_cons_self ..))
    rw [any_alike hx _ (rgs_in c hc), Vcy.cat_of (fun b hb => hx b (List.mem_cons_of_mem _ (List.mem_cons_of_mem _ hb)))]
    exact rgs_at x hx1 (by omega) (by omega) c hc
  · have e : rgs c = [] := by unfold rgs; rw [if_neg (by omega), lst_none c (by omega)]
    have hr := catF_range r 6 1
    have hn : cat r ≠ c := by
      unfold cat
      intro hh
      rw [hh] at hr
      omega
    rw [e, List.any_nil, beq_eq_false_iff_ne.2 hn]
theorem rdS {l : List SR} {i : Nat} (h : i < l.length) : rd_T46 l (i : Int) = l[i] := by unfold rd_T46; simp [List.getD_eq_getElem?_getD, List.getElem?_eq_getElem h]
theorem l2Ev (c : Int) (R : List SR) (hR : R.length ≤ 100000) (l : List Int) (i : Int) (x : Int) (hx : 0 ≤ x → x ≤ 1114111 → R.any (inR x) = (cat x == c))
    (ih : Ev (fun k => tremalaw02_UcdRanges.l1 k c R l (l.length : Int) (wrap64 (i + 1))) true) : Ev (fun k => tremalaw02_UcdRanges.l2 k c R x false l (l.length : Int) i R (R.length : Int) 0) true := by
  refine ev_range (n := R.length) (F := fun k j => tremalaw02_UcdRanges.l2 k c R x ((R.take j.toNat).any (inR x)) l (l.length : Int) i R (R.length : Int) j) ?_ (fun j hj hh => ?_) 0 (Nat.zero_le _)
  · refine Ev.step (fun k => tremalaw02_UcdRanges.l2.eq_2 ..) ?_
    simp only [if_neg (Int.lt_irrefl _), Int.toNat_natCast, List.take_length]
    by_cases h0 : x ≥ 0
    · by_cases h1 : x ≤ 1114111
      · simp only [if_pos h0, if_pos h1, ucd_Category.f, Option.bind_some, hx h0 h1, bne_self_eq_false, Bool.false_eq_true, if_false]
        exact ih
      · simp only [if_pos h0, if_neg h1]
        exact ih
    · simp only [if_neg h0]
      exact ih
  · have hw := w64 (i := j) (by omega)
    have c1 : (j : Int) < (R.length : Int) := by omega
    have c2 : (0 : Int) ≤ (j : Int) := by omega
    refine Ev.step (fun k => tremalaw02_UcdRanges.l2.eq_2 ..) ?_
    simp only [if_pos c1, if_pos c2, rdS hj, hw, Int.toNat_natCast]
    have e : (R.take (j + 1)).any (inR x) = ((R.take j).any (inR x) || inR x R[j]) := by rw [List.take_succ_eq_append_getElem hj, List.any_append]; simp
    simp only [Int.toNat_natCast, e] at hh
    cases ha : (R.take j).any (inR x) with
    | true =>
      simp only [if_true]
      rw [ha, Bool.true_or] at hh
      exact hh
    | false =>
      rw [ha, Bool.false_or] at hh
      simp only [Bool.false_eq_true, if_false]
      unfold inR at hh
      by_cases h1 : R[j].f0 ≤ x
      · simp only [if_pos h1]
        rw [decide_eq_true h1, Bool.true_and] at hh
        exact hh
      · simp only [if_neg h1]
        rw [decide_eq_false h1, Bool.false_and] at hh
        exact hh
theorem rgs_len (c : Int) : (rgs c).length ≤ 100000 := by
  by_cases h : 1 ≤ c ∧ c ≤ 7
  · have : c = 1 ∨ c = 2 ∨ c = 3 ∨ c = 4 ∨ c = 5 ∨ c = 6 ∨ c = 7 := by omega
    rcases this with rfl | rfl | rfl | rfl | rfl | rfl | rfl <;> decide +kernel
  · have e : rgs c = [] := by unfold rgs; rw [if_neg (by omega), lst_none c (by omega)]
    rw [e]
    exact Nat.zero_le _
theorem UcdRanges (c : Int) (hcw : (Lit.int .i64 c).wf = true) (l : List Int) (hwf : ∀ x ∈ l, (Lit.int .i32 x).wf = true) (hl : l.length * 4 ≤ 140737488351232) : ∃ k, tremalaw02_UcdRanges.f k c l = some true := by
  apply Ev.rounds (g := fun k => tremalaw02_UcdRanges.f k c l)
  have hR := rgs_len c
  have hcat := fun (x : Int) => rgs_cat x c
  have hE := refRangesEv c
  unfold tremalaw02_UcdRanges.f
  refine Ev.bind Vp.fixEv ?_
  simp only [if_true, ucd_Ranges.f, Option.bind_some]
  refine Ev.bind hE ?_
  generalize rgs c = R at hR hcat
  simp only [if_true]
  have key : Ev (fun k => tremalaw02_UcdRanges.l1 k c R l (l.length : Int) 0) true := by
    refine ev_list (l := l) (F := fun k i => tremalaw02_UcdRanges.l1 k c R l (l.length : Int) i) ?_ ?_
    · refine Ev.step (fun k => tremalaw02_UcdRanges.l1.eq_2 ..) ?_
      simp only [if_neg (Int.lt_irrefl _)]
      exact Ev.now _
    · intro i x hi hx hrd ih
      have c1 : (i : Int) < (l.length : Int) := by omega
      have c2 : (0 : Int) ≤ (i : Int) := by omega
      refine Ev.step (fun k => tremalaw02_UcdRanges.l1.eq_2 ..) ?_
      simp only [if_pos c1, if_pos c2, hrd]
      refine l2Ev c R hR l (i : Int) x (hcat x) ?_
      rw [w64 (i := i) (by omega)]
      exact ih
  refine ev_range (n := R.length) (F := fun k i => tremalaw02_UcdRanges.l0 k c l R R (R.length : Int) i) ?_ (fun i hi ih => ?_) 0 (Nat.zero_le _)
  · refine Ev.step (fun k => tremalaw02_UcdRanges.l0.eq_2 ..) ?_
    simp only [if_neg (Int.lt_irrefl _)]
    exact key
  · have hw := w64 (i := i) (by omega)
    have c1 : (i : Int) < (R.length : Int) := by omega
    have c2 : (0 : Int) ≤ (i : Int) := by omega
    refine Ev.step (fun k => tremalaw02_UcdRanges.l0.eq_2 ..) ?_
    simp only [if_pos c1, if_pos c2, beq_self_eq_true, Bool.not_true, Bool.or_self, Bool.false_eq_true, if_false, hw]
    exact ih
end Go.Proofs.YthffpkdadffinaaDoor.Vkq
namespace Go.Proofs.YthffpkdadffinaaDoor.Od
set_option linter.unusedVariables false
set_option linter.unusedSimpArgs false
open Go.RowKit Go.Proofs.YthffpkdadffinaaDoorW.PrintWords Go.Proofs.YthffpkdadffinaaDoor.Hp Go.ChangeShapes Go.WideShapes
def Opens {α : Type} (P : Program) (t : TypeId) (d : Kd α) (wf : α → Prop) (bulk : α → Nat) : Prop :=
  ∀ (H : Type) (enc : TypeId × Value → H) (w : World) (base : Nat) (spare : Nat → Bool) (held : Bool) (fuel : Nat) (cs : List Value) (x : DataW H × List MemPlace),
    DataW.trod enc P w base spare held fuel t cs = some x → ∃ a, d.K w a cs ∧ wf a ∧ bulk a ≤ Rows.uptoBulk x.1
def sumB {α : Type} (bulk : α → Nat) : List α → Nat
  | [] => 0
  | a :: l => bulk a + sumB bulk l
theorem bulkAll_append {H : Type} (l r : List (DataW H)) : Rows.uptoBulkAll (l ++ r) = Rows.uptoBulkAll l + Rows.uptoBulkAll r := by
  induction l with
  | nil => simp [Rows.uptoBulkAll]
  | cons x l ih => simp only [List.cons_append, Rows.uptoBulkAll, ih]; omega
section
variable {P : Program}
theorem opens_int {t : TypeId} {k : IntKind} (ht : P.underlying t = some (.int k)) : Opens P t (Kd.int k) (fun n => (Lit.int k n).wf = true) (fun _ => 1) := by
  intro H enc w base spare held fuel cs x h
  obtain ⟨n, rfl, rfl, hw⟩ := DataW.trod_int ht h
  exact ⟨n, rfl, hw, by simp [Rows.uptoBulk]⟩
theorem slice_list {α : Type} {d : Kd α} {wf : α → Prop} {bulk : α → Nat} {e : TypeId} {H : Type} {enc : TypeId × Value → H} {w : World} {base : Nat} {spare : Nat → Bool} {held : Bool} (ho : Opens P e d wf bulk) (hC : P.cellsOf e = d.sz) {a : Addr} {m n : Nat} {D : Nat → DataW H} {Pl : Nat → List MemPlace}
    (hx : ∀ i, i < m → ∃ cs', w.cells? base (a.add (i * P.cellsOf e)) (P.cellsOf e) = some cs' ∧ DataW.trod enc P w base spare held n e cs' = some (D i, Pl i)) (len : Nat) (hl : len ≤ m) (hM : len ≤ 9223372036854775807) :
    ∃ xs : List α, xs.length = len ∧ d.C w (some a) len xs ∧ (∀ x, x ∈ xs → wf x) ∧ sumB bulk xs ≤ Rows.uptoBulkAll ((List.range len).map D) := by
  have key : ∀ k, k ≤ len → ∃ xs : List α, xs.length = k ∧ (∀ j p, xs[j]? = some p → ∃ c, c.length = d.sz ∧ d.K w p c ∧ ∀ i u, c[i]? = some u → w.cell? (a.add (j * d.sz + i)) = some u) ∧ (∀ x, x ∈ xs → wf x) ∧ sumB bulk xs ≤ Rows.uptoBulkAll ((List.range k).map D) := by
    intro k
    induction k with
    | zero => exact fun _ => ⟨[], rfl, by simp, by simp, by simp [sumB]⟩
    | succ k ih =>
      intro hk
      obtain ⟨xs, h1, h2, h3, h4⟩ := ih (by omega)
      obtain ⟨cs', hc, ht⟩ := hx k (by omega)
      obtain ⟨p, hK, hw, hb⟩ := ho H enc w base spare held n cs' _ ht
      obtain ⟨_, hcl, hcell⟩ := World.cells?_some hc
      refine ⟨xs ++ [p], by simp [h1], ?_, ?_, ?_⟩
      · intro j q hq
        rw [List.getElem?_append] at hq
        split at hq
        · exact h2 j q hq
        · rename_i hge
          rcases Nat.lt_or_ge (j - xs.length) 1 with h5 | h5
          · have hj : j = k := by omega
            subst hj
            rw [h1, Nat.sub_self] at hq
            simp at hq
            subst hq
            refine ⟨cs', by rw [hcl, hC], hK, fun i u hu => ?_⟩
            have hi : i < P.cellsOf e := by rw [← hcl]; exact (List.getElem?_eq_some_iff.1 hu).1
            have := hcell i hi
            rw [Go.Deep.add_add, hC] at this
            rw [this, hu]
          · rw [List.getElem?_eq_none (by simpa using h5)] at hq; cases hq
      · intro x hx
        rcases List.mem_append.1 hx with hx | hx
        · exact h3 x hx
        · rw [List.mem_singleton.1 hx]; exact hw
      · have e2 : sumB bulk (xs ++ [p]) = sumB bulk xs + bulk p := by
          clear h1 h2 h3 h4
          induction xs with
          | nil => simp [sumB]
          | cons y ys ih2 => simp only [List.cons_append, sumB, ih2]; omega
        rw [e2, List.range_succ, List.map_append, bulkAll_append]
        simp only [List.map_cons, List.map_nil, Rows.uptoBulkAll]
        have hb2 : bulk p ≤ Rows.uptoBulk (D k) := hb
        omega
  obtain ⟨xs, h1, h2, h3, h4⟩ := key len (Nat.le_refl _)
  exact ⟨xs, h1, ⟨h1, hM, fun _ => ⟨a, rfl, h2⟩⟩, h3, h4⟩
theorem arg_slice {α : Type} {d : Kd α} {wf : α → Prop} {bulk : α → Nat} {t e : TypeId} (ht : P.underlying t = some (.slice e)) (hC : P.cellsOf e = d.sz) (ho : Opens P e d wf bulk)
    {H : Type} {enc : TypeId × Value → H} {w : World} {base : Nat} {spare : Nat → Bool} {held : Bool} {v : Value} {data : DataW H} {ps : List MemPlace} {r : Reach} {b0 : Nat} (hv : Value.okWide P w r b0 t v) (h : DataW.Trod enc P w base spare held t v data ps) :
    ∃ A xs c, v = .slice A xs.length c ∧ xs.length ≤ c ∧ d.C w A xs.length xs ∧ (∀ x, x ∈ xs → wf x) ∧ sumB bulk xs + 1 ≤ Rows.uptoBulk data ∧
      (∀ (ts : List TypeId) (ds : List (DataW H)) (j B : Nat), (DataW.weightsEach P ts ds).all (· ≤ reachBytes) = true → ts[j]? = some t → ds[j]? = some data → P.bytesOf e = B → xs.length * B ≤ 140737488351232) := by
  obtain ⟨a0, len0, cap0, rfl⟩ := okWide_slice ht hv
  obtain ⟨fuel, hf⟩ := h
  rcases Go.Deep.open_slice ht hf with ⟨hcs, hx⟩ | ⟨a, len, cap, m, n, D, Pl, hcs, hb, hl, hm, hmm, hx, hi⟩
  · simp [Value.cells] at hcs
    obtain ⟨rfl, rfl, rfl⟩ := hcs
    obtain ⟨rfl, rfl⟩ := Prod.mk.inj hx
    exact ⟨none, [], 0, rfl, Nat.le_refl _, Kd.C_nil d w, by simp, by simp [sumB, Rows.uptoBulk], by simp⟩
  · simp [Value.cells] at hcs
    obtain ⟨rfl, rfl, rfl⟩ := hcs
    obtain ⟨rfl, rfl⟩ := Prod.mk.inj hx
    obtain ⟨xs, h1, h2, h3, h4⟩ := slice_list ho hC hi len0 (by rw [hmm]; split <;> omega) (by simp only [maxLen] at hm; omega)
    subst h1
    refine ⟨some a, xs, cap0, rfl, hl, h2, h3, by simp only [Rows.uptoBulk]; omega, ?_⟩
    intro ts ds j B hsz htj hdj hB
    have z := sized_slice hsz htj hdj ht
    rw [hB] at z
    have hr : reachBytes = 140737488351232 := by decide
    simp only [List.length_map, List.length_range] at z
    rw [hr] at z
    exact Nat.le_trans (Nat.mul_le_mul_right _ (by omega)) z
end
end Go.Proofs.YthffpkdadffinaaDoor.Od
