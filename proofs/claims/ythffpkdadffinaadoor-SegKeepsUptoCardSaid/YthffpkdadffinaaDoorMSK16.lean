/-
  Several texts of this claim in one: what its law's proof uses.
-/
import Derived.Test.YthffpkdadffinaaDoorMSK2
import Derived.Test.YthffpkdadffinaaDoorMSK15
import Derived.Test.YthffpkdadffinaaDoorMSK13
import Derived.Test.YthffpkdadffinaaDoorMSK14
import Derived.Test.YthffpkdadffinaaDoorMSK8
import Derived.Test.YthffpkdadffinaaDoorMSK11
import Derived.Test.YthffpkdadffinaaDoorMSK12
import Derived.Test.YthffpkdadffinaaDoorRows
import Derived.Deep.Slices
import Derived.ChangeArms
import Derived.ChangeMaps
import Derived.SizedLaws
import Derived.OpenShut
import Derived.ProofKit
import Derived.Deep.RegionHeld3
import Derived.Deep.DeepCutAuto
import Derived.BigQuiet
import Derived.Test.YthffpkdadffinaaDoorProg
import Derived.Laws.MakeOwn
import Derived.ArgAppend
namespace Go.Proofs.YthffpkdadffinaaDoor.X
open Go.RowKit Go.Proofs.YthffpkdadffinaaDoorW.PrintWords Go.Proofs.YthffpkdadffinaaDoorW.PrintLast Go.Proofs.YthffpkdadffinaaDoorW.PrintMore
attribute [local go_sem] max2_int min2_int max_two min_two max_three min_three max_four min_four   
set_option linter.unusedVariables false
set_option linter.unusedSimpArgs false
def tremaref04_Split.j0 : Nat → List Int → Int → Bool → Option ((List (S67)) × Int)
 | 0, _, _, _ => none
 | k + 1, x0, x1, x13 => if x13 = true then (some (([] : List (S67)), 1)) else ((tremaref04_All.f k x0).bind fun t315 => ((tremaref04_good.f k t315 x1).bind fun bt318 => (if bt318.2 = true then (some (bt318.1, 6)) else (some (bt318.1, 0)))))
def tremaref04_Split.f (k : Nat) (l0 : List Int) (a1 : Int) : Option ((List (S67)) × Int) := if a1 < 1 then (tremaref04_Split.j0 k l0 a1 true) else (tremaref04_Split.j0 k l0 a1 (decide (a1 > 64)))
theorem tremaref04_Split.mono_l : ∀ k, (∀ y0 y1 y2, LeO (tremaref04_Split.j0 k y0 y1 y2) (tremaref04_Split.j0 (k + 1) y0 y1 y2))
 | 0 => fun _ _ _ r h => by simp [tremaref04_Split.j0] at h
 | k + 1 => by
  have ih0 := tremaref04_Split.mono_l k
  ·intro y0 y1 y2
   unfold tremaref04_Split.j0
   repeat' first
   | (with_reducible exact ih0 _ _ _)
   | (with_reducible exact tremaref04_All.mono _ _)
   | (with_reducible exact tremaref04_good.mono _ _ _)
   | (with_reducible exact LeO.refl _)
   | (with_reducible exact LeO.none _)
   | (with_reducible refine LeO.ite ?_ ?_)
   | (with_reducible refine LeO.bind ?_ (fun _ => ?_))
   | exact ih0 _ _ _
   | exact tremaref04_All.mono _ _
   | exact tremaref04_good.mono _ _ _
   | exact LeO.none _
   | refine LeO.ite ?_ ?_
   | refine LeO.bind ?_ (fun _ => ?_)
theorem tremaref04_Split.mono : ∀ a0 a1 k, LeO (tremaref04_Split.f k a0 a1) (tremaref04_Split.f (k + 1) a0 a1) := by
 intro a0 a1 k
 have ih0 := tremaref04_Split.mono_l k
 unfold tremaref04_Split.f
 repeat' first
   | (with_reducible exact ih0 _ _ _)
   | (with_reducible exact tremaref04_All.mono _ _)
   | (with_reducible exact tremaref04_good.mono _ _ _)
   | (with_reducible exact LeO.refl _)
   | (with_reducible exact LeO.none _)
   | (with_reducible refine LeO.ite ?_ ?_)
   | (with_reducible refine LeO.bind ?_ (fun _ => ?_))
   | exact ih0 _ _ _
   | exact tremaref04_All.mono _ _
   | exact tremaref04_good.mono _ _ _
   | exact LeO.none _
   | refine LeO.ite ?_ ?_
   | refine LeO.bind ?_ (fun _ => ?_)
set_option maxHeartbeats 8000000 in
set_option maxRecDepth 100000 in
theorem tremaref04_Split.calls (k : Nat) (A0 : Option Addr) (c0 : Nat) (l0 : List Int) (a1 : Int) (r1 : List (S67)) (r2 : Int) (w : World) (hr0 : Kd.C (Kd.int .u8) w A0 l0.length l0) (hc0 : l0.length ≤ c0) (h : tremaref04_Split.f k l0 a1 = some (r1, r2)) :
  Calls Tryd.prog 21 #[.slice A0 l0.length c0, .int .i64 a1] w fun e w' => ∃ v0_ : Value, e = .returned (.tuple #[v0_, .int .i64 r2]) ∧ Kd.R k67 67 w' w.heap.size (fun _ => True) v0_ r1 ∧ Below w.heap.size w w' := by
 have HR0 := Aside0.mk hr0
 have HC0 := Aside0.mk hc0
 clear hr0 hc0
 have HB := Aside0.mk (Below.refl w.heap.size w)
 have H : (if a1 < 1 then (tremaref04_Split.j0 k l0 a1 true) else (tremaref04_Split.j0 k l0 a1 (decide (a1 > 64)))) = some (r1, r2) := h
 clear h
 have HC3 := Aside0.mk H
 clear H
 go_enter Tryd.func21, Tryd.ntmps21
 go_upto_region 1 with (fail)
 go_cut [13] (fun v13 wc => ∃ (kq : Nat) (x13_2 : Bool), v13 = .bool x13_2 ∧ Aside0 (tremaref04_Split.j0 kq l0 a1 x13_2 = some (r1, r2)) ∧ Aside0 (kq ≤ k) ∧ Aside0 (Below w.heap.size w wc))
 case first =>
  have H := HC3.out
  clear HC3
  by_cases c4 : a1 < 1
  ·rw [if_pos c4] at H
   have c4b0 : decide (a1 < 1) = true := decide_eq_true c4
   clear c4
   (first | rw [c4b0] | (simp only [i64_w, i32_w]; rw [c4b0]) | skip)
   have H' := Aside0.mk H
   clear H
   go_wp2
   go_meet
   case rel => exact ⟨_, (true), (by first | rfl | (simp; done) | (simp [*]; done)), H', ⟨by first | omega | exact Nat.le_refl _⟩, ⟨by repeat (first | (with_reducible first | exact HB.out | apply below_alloc | apply pw_below_drewN | apply below_drew1) | exact HB.out)⟩⟩
  ·rw [if_neg c4] at H
   have c4b0 : decide (a1 < 1) = false := decide_eq_false c4
   clear c4
   (first | rw [c4b0] | (simp only [i64_w, i32_w]; rw [c4b0]) | skip)
   have H' := Aside0.mk H
   clear H
   go_wp2
   go_meet
   case rel => exact ⟨_, (decide (a1 > 64)), (by first | rfl | (simp; done) | (simp [*]; done)), H', ⟨by first | omega | exact Nat.le_refl _⟩, ⟨by repeat (first | (with_reducible first | exact HB.out | apply below_alloc | apply pw_below_drewN | apply below_drew1) | exact HB.out)⟩⟩
 case rest =>
  clear HC3
  try clear c2
  try clear p2
  try clear c4
  try clear c4b0
  obtain ⟨kq, x13_2, rfl, HA, HJ2, HB⟩ := hcut
  cases kq with
  | zero => exact absurd HA.out (by simp [tremaref04_Split.j0])
  | succ kj2 =>
   have H := HA.out
   clear HA
   simp only [tremaref04_Split.j0] at H
   by_cases c5 : x13_2 = true
   ·subst c5
    have H1 : (some (([] : List (S67)), 1)) = some (r1, r2) := by rw [if_pos rfl] at H; exact H
    clear H
    have H := H1
    clear H1
    simp only [Option.some.injEq, Prod.mk.injEq] at H
    obtain ⟨rfl, rfl⟩ := H
    go_wp2
    go_ret2
    exact ⟨_, by first | rfl | (simp [errW_none, errW_some] <;> rfl) | (simp [*, errW_none, errW_some] <;> rfl), by first | exact Kd.R_nil _ _ _ _ _ | exact Kd.N_nil _ _ _ _ _ | exact Kd.V_nil _ _ _ _ _ | exact Kd.Q_nil _ _ _ _ _ | exact Kd.S_nil _ _ _ _ _, by repeat (first | (with_reducible first | exact HB.out | apply below_alloc | apply pw_below_drewN | apply below_drew1) | exact HB.out)⟩
   ·replace c5 := Bool.eq_false_iff.mpr c5
    subst c5
    have H1 : ((tremaref04_All.f kj2 l0).bind fun t315 => ((tremaref04_good.f kj2 t315 a1).bind fun bt318 => (if bt318.2 = true then (some (bt318.1, 6)) else (some (bt318.1, 0))))) = some (r1, r2) := by rw [if_neg (show ¬ (false = true) by decide)] at H; exact H
    clear H
    have H := H1
    clear H1
    replace H := Option.bind_eq_some_iff.mp H
    obtain ⟨t315, A60, H⟩ := H
    replace H : ((tremaref04_good.f kj2 t315 a1).bind fun bt318 => (if bt318.2 = true then (some (bt318.1, 6)) else (some (bt318.1, 0)))) = some (r1, r2) := H
    have A6 := Aside0.mk A60
    clear A60
    replace H := Option.bind_eq_some_iff.mp H
    obtain ⟨⟨t318, t321⟩, A70, H⟩ := H
    replace H : (if t321 = true then (some (t318, 6)) else (some (t318, 0))) = some (r1, r2) := H
    have A7 := Aside0.mk A70
    clear A70
    by_cases c8 : t321 = true
    ·subst c8
     have H1 : (some (t318, 6)) = some (r1, r2) := by rw [if_pos rfl] at H; exact H
     clear H
     have H := H1
     clear H1
     simp only [Option.some.injEq, Prod.mk.injEq] at H
     obtain ⟨rfl, rfl⟩ := H
     go_wp2_with (first | ((with_reducible refine gate_callee (f := 52) rfl ?_); refine goesL_ (some 16) rfl rfl Tryd.func52 (by kernel_rfl) rfl #[.slice A0 l0.length c0] rfl (by (try simp only [List.map_toArray, List.map_cons, List.map_nil]); first | done | rfl | (simp only [List.length_drop, List.length_take]; rfl)) ?_; (with_reducible refine (tremaref04_All.calls kj2 _ _ l0 t315 _ ?side1 ?side2 A6.out).mono ?_); (case side1 => repeat (first | exact (Kd.C_below HR0.out HB.out) | (with_reducible refine Kd.C_alloc ?_ _) | (with_reducible refine Kd.C_drewN ?_ _) | (with_reducible refine Kd.C_drew ?_))); (case side2 => exact HC0.out); rintro e w9 ⟨v316, rfl, ho0, hb⟩; refine ⟨_, rfl, ?_⟩; have n0_ := Aside0.mk (Kd.R_lower ho0 (below_size (by repeat (first | (with_reducible first | exact HB.out | apply below_alloc | apply pw_below_drewN | apply below_drew1) | exact HB.out)))); have n1_ := Aside0.mk (below_step (by repeat (first | (with_reducible first | exact HB.out | apply below_alloc | apply pw_below_drewN | apply below_drew1) | exact HB.out)) hb); clear HB; have HO317 := n0_; have HB := n1_; clear n0_ n1_; (try clear hb); (try clear hb2); (try clear hk); (try clear hi); (try clear ho0); obtain ⟨Ao10, co10, eo10⟩ := Kd.R_slice HO317.out; subst eo10) | ((with_reducible refine gate_callee (f := 48) rfl ?_); refine goesL_ (some 18) rfl rfl Tryd.func48 (by kernel_rfl) rfl #[.slice Ao10 t315.length co10, .int .i64 a1] rfl (by (try simp only [List.map_toArray, List.map_cons, List.map_nil]); first | done | rfl | (simp only [List.length_drop, List.length_take]; rfl)) ?_; (with_reducible refine (tremaref04_good.calls kj2 (fun k_ => some k_ = (.slice Ao10 t315.length co10 : Value).ownBlock) (.slice Ao10 t315.length co10) t315 a1 t318 true w _ ?side1 ?side2 A7.out).mono ?_); (case side1 => repeat (first | (with_reducible first | exact HB.out | apply below_alloc | apply pw_below_drewN | apply below_drew1) | exact HB.out)); (case side2 => exact Kd.R_tight rfl HO317.out); rintro e w11 ⟨v319, rfl, ho0, hb, hkp⟩; refine ⟨_, rfl, ?_⟩; have n0_ := Aside0.mk (Kd.R_mono (ok' := fun k_ => True) ho0 (fun k_ hk_ => trivial)); have n1_ := Aside0.mk (hb); clear HB; clear HO317; have HO320 := n0_; have HB := n1_; clear n0_ n1_; (try clear hb); (try clear hkp); (try clear ho0)))
     go_ret2
     exact ⟨_, by first | rfl | (simp [errW_none, errW_some] <;> rfl) | (simp [*, errW_none, errW_some] <;> rfl), by (with_reducible repeat (first | apply Kd.R_alloc | apply Kd.R_drewN | apply Kd.R_drew)); exact HO320.out, by repeat (first | (with_reducible first | exact HB.out | apply below_alloc | apply pw_below_drewN | apply below_drew1) | exact HB.out)⟩
    ·replace c8 := Bool.eq_false_iff.mpr c8
     subst c8
     have H1 : (some (t318, 0)) = some (r1, r2) := by rw [if_neg (show ¬ (false = true) by decide)] at H; exact H
     clear H
     have H := H1
     clear H1
     simp only [Option.some.injEq, Prod.mk.injEq] at H
     obtain ⟨rfl, rfl⟩ := H
     go_wp2_with (first | ((with_reducible refine gate_callee (f := 52) rfl ?_); refine goesL_ (some 16) rfl rfl Tryd.func52 (by kernel_rfl) rfl #[.slice A0 l0.length c0] rfl (by (try simp only [List.map_toArray, List.map_cons, List.map_nil]); first | done | rfl | (simp only [List.length_drop, List.length_take]; rfl)) ?_; (with_reducible refine (tremaref04_All.calls kj2 _ _ l0 t315 _ ?side1 ?side2 A6.out).mono ?_); (case side1 => repeat (first | exact (Kd.C_below HR0.out HB.out) | (with_reducible refine Kd.C_alloc ?_ _) | (with_reducible refine Kd.C_drewN ?_ _) | (with_reducible refine Kd.C_drew ?_))); (case side2 => exact HC0.out); rintro e w12 ⟨v316, rfl, ho0, hb⟩; refine ⟨_, rfl, ?_⟩; have n0_ := Aside0.mk (Kd.R_lower ho0 (below_size (by repeat (first | (with_reducible first | exact HB.out | apply below_alloc | apply pw_below_drewN | apply below_drew1) | exact HB.out)))); have n1_ := Aside0.mk (below_step (by repeat (first | (with_reducible first | exact HB.out | apply below_alloc | apply pw_below_drewN | apply below_drew1) | exact HB.out)) hb); clear HB; have HO317 := n0_; have HB := n1_; clear n0_ n1_; (try clear hb); (try clear hb2); (try clear hk); (try clear hi); (try clear ho0); obtain ⟨Ao13, co13, eo13⟩ := Kd.R_slice HO317.out; subst eo13) | ((with_reducible refine gate_callee (f := 48) rfl ?_); refine goesL_ (some 18) rfl rfl Tryd.func48 (by kernel_rfl) rfl #[.slice Ao13 t315.length co13, .int .i64 a1] rfl (by (try simp only [List.map_toArray, List.map_cons, List.map_nil]); first | done | rfl | (simp only [List.length_drop, List.length_take]; rfl)) ?_; (with_reducible refine (tremaref04_good.calls kj2 (fun k_ => some k_ = (.slice Ao13 t315.length co13 : Value).ownBlock) (.slice Ao13 t315.length co13) t315 a1 t318 false w _ ?side1 ?side2 A7.out).mono ?_); (case side1 => repeat (first | (with_reducible first | exact HB.out | apply below_alloc | apply pw_below_drewN | apply below_drew1) | exact HB.out)); (case side2 => exact Kd.R_tight rfl HO317.out); rintro e w14 ⟨v319, rfl, ho0, hb, hkp⟩; refine ⟨_, rfl, ?_⟩; have n0_ := Aside0.mk (Kd.R_mono (ok' := fun k_ => True) ho0 (fun k_ hk_ => trivial)); have n1_ := Aside0.mk (hb); clear HB; clear HO317; have HO320 := n0_; have HB := n1_; clear n0_ n1_; (try clear hb); (try clear hkp); (try clear ho0)))
     go_ret2
     exact ⟨_, by first | rfl | (simp [errW_none, errW_some] <;> rfl) | (simp [*, errW_none, errW_some] <;> rfl), by (with_reducible repeat (first | apply Kd.R_alloc | apply Kd.R_drewN | apply Kd.R_drew)); exact HO320.out, by repeat (first | (with_reducible first | exact HB.out | apply below_alloc | apply pw_below_drewN | apply below_drew1) | exact HB.out)⟩
end Go.Proofs.YthffpkdadffinaaDoor.X
namespace Go.Proofs.YthffpkdadffinaaDoor.X
open Go.RowKit Go.Proofs.YthffpkdadffinaaDoorW.PrintWords Go.Proofs.YthffpkdadffinaaDoorW.PrintLast Go.Proofs.YthffpkdadffinaaDoorW.PrintMore
attribute [local go_sem] max2_int min2_int max_two min_two max_three min_three max_four min_four   
set_option linter.unusedVariables false
set_option linter.unusedSimpArgs false
theorem eqA67 (d : Nat) (w : World) (x0 y0 : ByteArray) (x1 y1 : Int) (x2 y2 : Int) :
    (Op.equalIn (d + 2) 67 (.agg #[.string x0, .int .i64 x1, .int .i64 x2]) (.agg #[.string y0, .int .i64 y1, .int .i64 y2])).run Tryd.prog w = .ok (x0.toList == y0.toList && (x1 == y1 && (x2 == y2))) w := by
  refine eqA_of Tryd.underlying67 (by kernel_rfl) ?_
  refine eqf_cons (by rfl) (by go_simp; rfl) (by go_simp; rfl) (by go_simp) ?_
  refine eqf_cons (by rfl) (by go_simp; rfl) (by go_simp; rfl) (by go_simp) ?_
  exact eqf_last (by rfl) (by go_simp; rfl) (by go_simp; rfl) (by go_simp)
end Go.Proofs.YthffpkdadffinaaDoor.X
namespace Go.Proofs.YthffpkdadffinaaDoor.X
open Go.RowKit Go.Proofs.YthffpkdadffinaaDoorW.PrintWords Go.Proofs.YthffpkdadffinaaDoorW.PrintLast Go.Proofs.YthffpkdadffinaaDoorW.PrintMore
attribute [local go_sem] max2_int min2_int max_two min_two max_three min_three max_four min_four   
set_option linter.unusedVariables false
set_option linter.unusedSimpArgs false
attribute [local go_sem high] eqA67
def tremaref04_Same.l0 : Nat → List (S67) → List (S67) → Int → Option (Bool)
 | 0, _, _, _ => none
 | k + 1, x0, x1, x5 => if x5 < (x0.length : Int) then (if 0 ≤ x5 then (if x5 < (x1.length : Int) then (if (!((((rd_T67 x0 x5).f0).toList) == (((rd_T67 x1 x5).f0).toList)) || (!(((rd_T67 x0 x5).f1) == ((rd_T67 x1 x5).f1)) || (!(((rd_T67 x0 x5).f2) == ((rd_T67 x1 x5).f2))))) = true then (some false) else (tremaref04_Same.l0 k x0 x1 (wrap64 (x5 + 1)))) else (none)) else (none)) else (some true)
def tremaref04_Same.f (k : Nat) (l0 : List (S67)) (l1 : List (S67)) : Option (Bool) := if (l0.length : Int) = (l1.length : Int) then (tremaref04_Same.l0 k l0 l1 0) else (some false)
theorem tremaref04_Same.mono_l : ∀ k, (∀ y0 y1 y2, LeO (tremaref04_Same.l0 k y0 y1 y2) (tremaref04_Same.l0 (k + 1) y0 y1 y2))
 | 0 => fun _ _ _ r h => by simp [tremaref04_Same.l0] at h
 | k + 1 => by
  have ih0 := tremaref04_Same.mono_l k
  ·intro y0 y1 y2
   unfold tremaref04_Same.l0
   repeat' first
   | (with_reducible exact ih0 _ _ _)
   | (with_reducible exact LeO.refl _)
   | (with_reducible exact LeO.none _)
   | (with_reducible refine LeO.ite ?_ ?_)
   | (with_reducible refine LeO.bind ?_ (fun _ => ?_))
   | exact ih0 _ _ _
   | exact LeO.none _
   | refine LeO.ite ?_ ?_
   | refine LeO.bind ?_ (fun _ => ?_)
theorem tremaref04_Same.mono : ∀ a0 a1 k, LeO (tremaref04_Same.f k a0 a1) (tremaref04_Same.f (k + 1) a0 a1) := by
 intro a0 a1 k
 have ih0 := tremaref04_Same.mono_l k
 unfold tremaref04_Same.f
 repeat' first
   | (with_reducible exact ih0 _ _ _)
   | (with_reducible exact LeO.refl _)
   | (with_reducible exact LeO.none _)
   | (with_reducible refine LeO.ite ?_ ?_)
   | (with_reducible refine LeO.bind ?_ (fun _ => ?_))
   | exact ih0 _ _ _
   | exact LeO.none _
   | refine LeO.ite ?_ ?_
   | refine LeO.bind ?_ (fun _ => ?_)
set_option maxHeartbeats 8000000 in
set_option maxRecDepth 100000 in
theorem tremaref04_Same.calls (k : Nat) (A0 : Option Addr) (c0 : Nat) (l0 : List (S67)) (A1 : Option Addr) (c1 : Nat) (l1 : List (S67)) (r : Bool) (w : World) (hr0 : Kd.C k67 w A0 l0.length l0) (hc0 : l0.length ≤ c0) (hr1 : Kd.C k67 w A1 l1.length l1) (hc1 : l1.length ≤ c1) (h : tremaref04_Same.f k l0 l1 = some r) :
  Calls Tryd.prog 17 #[.slice A0 l0.length c0, .slice A1 l1.length c1] w fun e w' => e = .returned (.bool r) ∧ Drawn0 w w' := by
 have hu67 := Tryd.underlying67
 have HR0 := Aside0.mk hr0
 have HC0 := Aside0.mk hc0
 clear hr0 hc0
 have HR1 := Aside0.mk hr1
 have HC1 := Aside0.mk hc1
 clear hr1 hc1
 have H : (if (l0.length : Int) = (l1.length : Int) then (tremaref04_Same.l0 k l0 l1 0) else (some false)) = some r := h
 clear h
 by_cases c3 : (l0.length : Int) = (l1.length : Int)
 ·rw [if_pos c3] at H
  have c3b0 : ((l0.length : Int) == (l1.length : Int)) = true := beq_iff_eq.mpr c3
  have c3b1 : ((l0.length : Int) != (l1.length : Int)) = false := bne_eq_false_iff_eq.mpr c3
  have c3b2 : (l0.length == l1.length) = true := by first | simpa using c3 | (simp at c3 ⊢; omega)
  clear c3
  have H' := Aside0.mk H
  clear H
  go_enter Tryd.func17, Tryd.ntmps17
  go_wp2
  repeat (go_quiet (fail); try go_wp2)
  go_loopg [5] k (fun kq v5 w' => ∃ (x5_1 : Int), v5 = .int .i64 x5_1 ∧ Aside0 (tremaref04_Same.l0 kq l0 l1 x5_1 = some r) ∧ Aside0 (kq ≤ k) ∧ Drawn0 w w')
  case atStart => exact ⟨(0), (by first | rfl | (simp; done) | (simp [*]; done)), H', ⟨Nat.le_refl _⟩, by repeat (first | exact Drawn0.refl _ | apply Drawn0.step)⟩
  case round =>
   clear H'
   try clear c1
   try clear p2
   try clear c3
   try clear c3b0
   try clear c3b1
   try clear c3b2
   obtain ⟨x5_1, rfl, HA, HK1, ⟨m1, rfl⟩⟩ := hrel
   cases gk with
   | zero => exact absurd HA.out (by simp [tremaref04_Same.l0])
   | succ k1 =>
    have H := HA.out
    clear HA
    simp only [tremaref04_Same.l0] at H
    by_cases c4 : x5_1 < (l0.length : Int)
    ·rw [if_pos c4] at H
     have c4b0 : decide (x5_1 < (l0.length : Int)) = true := decide_eq_true c4
     clear c4
     by_cases c5 : 0 ≤ x5_1
     ·rw [if_pos c5] at H
      have c5b0 : decide (0 ≤ x5_1) = true := decide_eq_true c5
      clear c5
      by_cases c6 : x5_1 < (l1.length : Int)
      ·rw [if_pos c6] at H
       have c6b0 : decide (x5_1 < (l1.length : Int)) = true := decide_eq_true c6
       clear c6
       by_cases c7 : (!((((rd_T67 l0 x5_1).f0).toList) == (((rd_T67 l1 x5_1).f0).toList)) || (!(((rd_T67 l0 x5_1).f1) == ((rd_T67 l1 x5_1).f1)) || (!(((rd_T67 l0 x5_1).f2) == ((rd_T67 l1 x5_1).f2))))) = true
       ·rw [if_pos c7] at H
        have c7b0 : (!((((rd_T67 l0 x5_1).f0).toList) == (((rd_T67 l1 x5_1).f0).toList)) || (!(((rd_T67 l0 x5_1).f1) == ((rd_T67 l1 x5_1).f1)) || (!(((rd_T67 l0 x5_1).f2) == ((rd_T67 l1 x5_1).f2))))) = true := c7
        clear c7
        obtain rfl := Option.some.inj H
        have p242 : 0 ≤ (x5_1 : Int) := of_decide_eq_true (by first | (with_reducible assumption) | assumption)
        have q242 : x5_1 < (l0.length : Int) := of_decide_eq_true (by first | (with_reducible assumption) | assumption)
        obtain ⟨ad242, e242, hx242_0, hx242_1, hx242_2⟩ := at_T67 HR0.out x5_1 p242 q242
        cases e242
        replace p242 := eq_true p242
        replace q242 := eq_true q242
        have p243 : 0 ≤ (x5_1 : Int) := of_decide_eq_true (by first | (with_reducible assumption) | assumption)
        have q243 : x5_1 < (l1.length : Int) := of_decide_eq_true (by first | (with_reducible assumption) | assumption)
        obtain ⟨ad243, e243, hx243_0, hx243_1, hx243_2⟩ := at_T67 HR1.out x5_1 p243 q243
        cases e243
        replace p243 := eq_true p243
        replace q243 := eq_true q243
        go_wp2
        repeat (go_quiet (fail); try go_wp2)
        go_ret
        exact ⟨by first | rfl | (simp; done) | (simp [*]; done), by repeat (first | exact Drawn0.refl _ | apply Drawn0.step)⟩
       ·rw [if_neg c7] at H
        have c7b0 : (!((((rd_T67 l0 x5_1).f0).toList) == (((rd_T67 l1 x5_1).f0).toList)) || (!(((rd_T67 l0 x5_1).f1) == ((rd_T67 l1 x5_1).f1)) || (!(((rd_T67 l0 x5_1).f2) == ((rd_T67 l1 x5_1).f2))))) = false := by simpa using c7
        clear c7
        have H' := Aside0.mk H
        clear H
        have p242 : 0 ≤ (x5_1 : Int) := of_decide_eq_true (by first | (with_reducible assumption) | assumption)
        have q242 : x5_1 < (l0.length : Int) := of_decide_eq_true (by first | (with_reducible assumption) | assumption)
        obtain ⟨ad242, e242, hx242_0, hx242_1, hx242_2⟩ := at_T67 HR0.out x5_1 p242 q242
        cases e242
        replace p242 := eq_true p242
        replace q242 := eq_true q242
        have p243 : 0 ≤ (x5_1 : Int) := of_decide_eq_true (by first | (with_reducible assumption) | assumption)
        have q243 : x5_1 < (l1.length : Int) := of_decide_eq_true (by first | (with_reducible assumption) | assumption)
        obtain ⟨ad243, e243, hx243_0, hx243_1, hx243_2⟩ := at_T67 HR1.out x5_1 p243 q243
        cases e243
        replace p243 := eq_true p243
        replace q243 := eq_true q243
        go_wp2
        repeat (go_quiet (fail); try go_wp2)
        go_roundg k1
        case measure => have := HK1.out; omega
        case rel => exact ⟨(wrap64 (x5_1 + 1)), (by first | rfl | (simp; done) | (simp [*]; done)), H', ⟨by have := HK1.out; omega⟩, by repeat (first | exact Drawn0.refl _ | apply Drawn0.step)⟩
      ·rw [if_neg c6] at H
       exact absurd H (by simp)
     ·rw [if_neg c5] at H
      exact absurd H (by simp)
    ·rw [if_neg c4] at H
     have c4b0 : decide (x5_1 < (l0.length : Int)) = false := decide_eq_false c4
     clear c4
     obtain rfl := Option.some.inj H
     go_wp2
     repeat (go_quiet (fail); try go_wp2)
     go_ret
     exact ⟨by first | rfl | (simp; done) | (simp [*]; done), by repeat (first | exact Drawn0.refl _ | apply Drawn0.step)⟩
 ·rw [if_neg c3] at H
  have c3b0 : ((l0.length : Int) == (l1.length : Int)) = false := beq_eq_false_iff_ne.mpr c3
  have c3b1 : ((l0.length : Int) != (l1.length : Int)) = true := bne_iff_ne.mpr c3
  have c3b2 : (l0.length == l1.length) = false := by first | simpa using c3 | (simp at c3 ⊢; omega)
  obtain rfl := Option.some.inj H
  go_enter Tryd.func17, Tryd.ntmps17
  go_wp2
  repeat (go_quiet (fail); try go_wp2)
  go_ret
  exact ⟨by first | rfl | (simp; done) | (simp [*]; done), by repeat (first | exact Drawn0.refl _ | apply Drawn0.step)⟩
end Go.Proofs.YthffpkdadffinaaDoor.X
namespace Go.Proofs.YthffpkdadffinaaDoor.Sgp
set_option linter.unusedVariables false
set_option linter.unusedSimpArgs false
open Go.Proofs.YthffpkdadffinaaDoor.Vd (decU)
open Go.Proofs.YthffpkdadffinaaDoor.Ve (opn)
open Go.Proofs.YthffpkdadffinaaDoor.Ux (Bytes one1 dc rest1 full dec)
open Go.Proofs.YthffpkdadffinaaDoor.En (enc fixr enc_byte enc_len)
open Go.RowKit Go.Proofs.YthffpkdadffinaaDoorW.PrintWords Go.Proofs.YthffpkdadffinaaDoor.Ev0 Go.Proofs.YthffpkdadffinaaDoor.X Go.Proofs.YthffpkdadffinaaDoor.Oa Go.Proofs.YthffpkdadffinaaDoor.Ob Go.Proofs.YthffpkdadffinaaDoor.Vp0 Go.Proofs.YthffpkdadffinaaDoor.Sga Go.Proofs.YthffpkdadffinaaDoor.Sgb Go.Proofs.YthffpkdadffinaaDoor.Sgc Go.Proofs.YthffpkdadffinaaDoor.Sgd
theorem lenF_txt (l : List Int) : lenF (txt l) = (nrm l).length := by
  unfold lenF txt Ot.rns
  rw [Ot.bytes_str _ (enc_byte _), Bk.full_ful]
  rw [Bk.ful_enc, List.length_map]
theorem flat_flat (l : List Int) (hl : ∀ x ∈ l, I32 x) : flat (flat l) = flat l := flat_id _ (fun y hy => (flat_bot l hl y hy).1)
theorem txt_flat (l : List Int) (hl : ∀ x ∈ l, I32 x) : txt (flat l) = txt l := by
  unfold txt nrm
  rw [flat_flat l hl]
theorem flat_ne (l : List Int) (h : l ≠ []) : flat l ≠ [] := by
  cases l with
  | nil => exact absurd rfl h
  | cons x t =>
    rw [flat_cons]
    intro e
    exact Ve.decF_ne 4 x (List.append_eq_nil_iff.1 e).1
def cutR : List SP → List Int → Int → Int → List SG
  | [], rs, a, e => [⟨txt rs, a, e⟩]
  | p :: t, rs, a, e => if opn p.f0 = true then ⟨txt rs, a, e⟩ :: cutR t [p.f0] p.f1 (p.f1 + p.f2) else cutR t (rs ++ [p.f0]) a (p.f1 + p.f2)
def cutS : List SP → List SG
  | [] => []
  | p :: t => cutR t [p.f0] p.f1 (p.f1 + p.f2)
def goodS (lim : Int) : List SG → List SG × Bool
  | [] => ([], false)
  | s :: l => if lim < (lenF s.f0 : Int) then ([], true) else (s :: (goodS lim l).1, (goodS lim l).2)
theorem long_first (lim : Int) : ∀ (t : List SP) (rs : List Int) (a e : Int), lim < ((flat rs).length : Int) → goodS lim (cutR t rs a e) = ([], true)
  | [], rs, a, e, h => by
    rw [cutR, goodS, if_pos (by rw [lenF_txt, nrm_len]; exact h)]
  | p :: t, rs, a, e, h => by
    rw [cutR]
    split
    · rw [goodS, if_pos (by rw [lenF_txt, nrm_len]; exact h)]
    · refine long_first lim t _ _ _ ?_
      rw [flat_app, List.length_append]
      omega
theorem tk_cut (lim : Int) : ∀ (t : List SP) (rs : List Int) (a e : Int), rs ≠ [] → (∀ x ∈ rs, I32 x) → (∀ p ∈ t, fine p) → ((flat rs).length : Int) ≤ lim →
    goodS lim (cutR t rs a e) = (fin (tk lim t (flat rs) a e), (tk lim t (flat rs) a e).2.2.2.2)
  | [], rs, a, e, hne, hrs, _, hl => by
    have h1 : (flat rs).isEmpty = false := by
      cases h : flat rs with
      | nil => exact absurd h (flat_ne rs hne)
      | cons x t => rfl
    rw [cutR, goodS, if_neg (by rw [lenF_txt, nrm_len]; omega), goodS]
    simp [tk, fin, h1, txt_flat rs hrs]
  | p :: t, rs, a, e, hne, hrs, hf, hl => by
    have h1 : (flat rs).isEmpty = false := by
      cases h : flat rs with
      | nil => exact absurd h (flat_ne rs hne)
      | cons x t => rfl
    have hp := hf p (List.mem_cons_self ..)
    have ht := fun q hq => hf q (List.mem_cons_of_mem _ hq)
    have hfl : flushB (flat rs) p.f0 = opn p.f0 := by unfold flushB; rw [h1]; rfl
    have e1 : flat [p.f0] = decU p.f0 := by simp [flat]
    rw [cutR, tk, hfl, txt_flat rs hrs]
    by_cases ho : opn p.f0 = true
    · rw [if_pos ho, if_pos ho, goodS, if_neg (by rw [lenF_txt, nrm_len]; omega)]
      by_cases hlm : lim < ((decU p.f0).length : Int)
      · rw [if_pos hlm, long_first lim t [p.f0] _ _ (by rw [e1]; exact hlm)]
        rfl
      · rw [if_neg hlm]
        have ih := tk_cut lim t [p.f0] p.f1 (p.f1 + p.f2) (by simp) (by intro x hx; rw [List.mem_singleton.1 hx]; exact hp.1) ht (by rw [e1]; omega)
        rw [e1] at ih
        rw [ih]
        have := fin_cat [⟨txt rs, a, e⟩] (tk lim t (decU p.f0) p.f1 (p.f1 + p.f2))
        unfold catT at this
        simp only [List.singleton_append] at this
        rw [this]
    · rw [if_neg ho, if_neg ho]
      have e2 : flat (rs ++ [p.f0]) = flat rs ++ decU p.f0 := by rw [flat_app, e1]
      by_cases hlm : lim < ((flat rs ++ decU p.f0).length : Int)
      · rw [if_pos hlm, long_first lim t _ _ _ (by rw [e2]; exact hlm)]
        rfl
      · rw [if_neg hlm]
        have ih := tk_cut lim t (rs ++ [p.f0]) a (p.f1 + p.f2) (by simp) (by intro x hx; rcases List.mem_append.1 hx with h | h; (· exact hrs x h); (· rw [List.mem_singleton.1 h]; exact hp.1)) ht (by rw [e2]; omega)
        rw [e2] at ih
        exact ih
theorem tk_cutS (lim : Int) (ps : List SP) (hf : ∀ p ∈ ps, fine p) (h0 : ∀ p t, ps = p :: t → p.f1 = 0) :
    goodS lim (cutS ps) = (fin (tk lim ps [] 0 0), (tk lim ps [] 0 0).2.2.2.2) := by
  cases ps with
  | nil => rfl
  | cons p t =>
    have hp := hf p (List.mem_cons_self ..)
    have ht := fun q hq => hf q (List.mem_cons_of_mem _ hq)
    have hz := h0 p t rfl
    have e1 : flat [p.f0] = decU p.f0 := by simp [flat]
    rw [cutS, tk, show flushB [] p.f0 = false from rfl, if_neg (by decide), List.nil_append]
    by_cases hlm : lim < ((decU p.f0).length : Int)
    · rw [if_pos hlm, long_first lim t _ _ _ (by rw [e1]; exact hlm)]
      rfl
    · rw [if_neg hlm]
      have ih := tk_cut lim t [p.f0] p.f1 (p.f1 + p.f2) (by simp) (by intro x hx; rw [List.mem_singleton.1 hx]; exact hp.1) ht (by rw [e1]; omega)
      rw [e1] at ih
      rw [ih, hz]
theorem full_fine (b : List Int) (hB : Bytes b) (hl : b.length ≤ 100000000) : ∀ p ∈ full b, fine p := by
  have hdl := Ux.dc_len b 0
  intro p hp
  rcases List.mem_append.1 hp with h | h
  · exact dec_fine b.length b 0 hB (Int.le_refl _) (by omega) p h
  · exact rest_fine _ _ (by omega) (by omega) p h
theorem full_at0 (b : List Int) : ∀ p t, full b = p :: t → p.f1 = 0 := by
  intro p t h
  cases b with
  | nil => cases h
  | cons c r =>
    rw [Bk.full_ful, Bk.ful_cons] at h
    rw [← (List.cons.inj h).1]
theorem split_cut (lim : Int) (b : List Int) (hB : Bytes b) (hl : b.length ≤ 100000000) (h1 : 1 ≤ lim) (h2 : lim ≤ 64) : splitF lim b = ((goodS lim (cutS (full b))).1, errOf (goodS lim (cutS (full b))).2) := by
  rw [tk_cutS lim (full b) (full_fine b hB hl) (full_at0 b)]
  exact if_neg (by omega)
end Go.Proofs.YthffpkdadffinaaDoor.Sgp
namespace Go.Proofs.YthffpkdadffinaaDoor.Sgq
set_option linter.unusedVariables false
set_option linter.unusedSimpArgs false
open Go.Proofs.YthffpkdadffinaaDoor.Vd (decU)
open Go.Proofs.YthffpkdadffinaaDoor.Ve (opn)
open Go.Proofs.YthffpkdadffinaaDoor.Ux (Bytes one1 dc rest1 full dec)
open Go.Proofs.YthffpkdadffinaaDoor.En (enc fixr enc_byte enc_len)
open Go.RowKit Go.Proofs.YthffpkdadffinaaDoorW.PrintWords Go.Proofs.YthffpkdadffinaaDoor.Ev0 Go.Proofs.YthffpkdadffinaaDoor.X Go.Proofs.YthffpkdadffinaaDoor.Oa Go.Proofs.YthffpkdadffinaaDoor.Ob Go.Proofs.YthffpkdadffinaaDoor.Vp0 Go.Proofs.YthffpkdadffinaaDoor.Vr Go.Proofs.YthffpkdadffinaaDoor.Vu Go.Proofs.YthffpkdadffinaaDoor.Sga Go.Proofs.YthffpkdadffinaaDoor.Sgb Go.Proofs.YthffpkdadffinaaDoor.Sgc Go.Proofs.YthffpkdadffinaaDoor.Sgd Go.Proofs.YthffpkdadffinaaDoor.Sgp
theorem rdP {l : List SP} {i : Nat} (h : i < l.length) : rd_T103 l (i : Int) = l[i] := by unfold rd_T103; simp [List.getD_eq_getElem?_getD, List.getElem?_eq_getElem h]
theorem rdG {l : List SG} {i : Nat} (h : i < l.length) : rd_T67 l (i : Int) = l[i] := by unfold rd_T67; simp [List.getD_eq_getElem?_getD, List.getElem?_eq_getElem h]
def rn (ps : List SP) (f i : Nat) : List Int := ((ps.take i).drop f).map (·.f0)
theorem rn_succ (ps : List SP) (f i : Nat) (hf : f ≤ i) (h : i < ps.length) : rn ps f (i + 1) = rn ps f i ++ [ps[i].f0] := by
  unfold rn
  rw [List.take_succ_eq_append_getElem h, List.drop_append_of_le_length (by rw [List.length_take]; omega), List.map_append]
  rfl
theorem rn_self (ps : List SP) (f : Nat) : rn ps f f = [] := by unfold rn; rw [List.drop_eq_nil_of_le (by rw [List.length_take]; omega)]; rfl
theorem rn_len (ps : List SP) (f i : Nat) (h : i ≤ ps.length) : (rn ps f i).length = i - f := by unfold rn; simp; omega
theorem rn_mem (ps : List SP) (f i : Nat) (hf : ∀ p ∈ ps, fine p) : ∀ x ∈ rn ps f i, I32 x := by
  intro x hx
  obtain ⟨p, hp, rfl⟩ := List.mem_map.1 hx
  exact (hf p (List.mem_of_mem_take (List.mem_of_mem_drop hp))).1
theorem cut_l1 (ps : List SP) (hf : ∀ p ∈ ps, fine p) (hl : ps.length ≤ 10000000) (out : List SG) (ho : out.length ≤ ps.length) (f i : Nat) (hfi : f < i) (hi : i ≤ ps.length) (R : List SG)
    (next : Ev (fun k => tremaref04_cut.l0 k ps (out ++ [⟨txt (rn ps f i), (ps[f]'(by omega)).f1, (ps[i - 1]'(by omega)).f1 + (ps[i - 1]'(by omega)).f2⟩]) (i : Int) ((i + 1 : Nat) : Int)) R) :
    Ev (fun k => tremaref04_cut.l1 k ps out (f : Int) (i : Int) ([] : List Int) (f : Int)) R := by
  have key : ∀ q j : Nat, j + q = i → f ≤ j → Ev (fun k => tremaref04_cut.l1 k ps out (f : Int) (i : Int) (rn ps f j) (j : Int)) R := by
    intro q
    induction q with
    | zero =>
      intro j hj hfj
      obtain rfl : j = i := hj
      have h32 := rn_mem ps f j hf
      have hrl := rn_len ps f j hi
      have hn := nrm_len3 (rn ps f j) h32
      have hfl : f < ps.length := by omega
      have hil : j - 1 < ps.length := by omega
      have hp := hf (ps[j - 1]'hil) (List.getElem_mem hil)
      obtain ⟨-, g1, g2, g3, g4⟩ := hp
      have hw : wrap64 ((ps[j - 1]'hil).f1 + (ps[j - 1]'hil).f2) = (ps[j - 1]'hil).f1 + (ps[j - 1]'hil).f2 := by unfold wrap64; omega
      have hw1 : wrap64 ((j : Int) - 1) = ((j - 1 : Nat) : Int) := by unfold wrap64; omega
      refine Ev.step (fun k => tremaref04_cut.l1.eq_2 ..) ?_
      simp only [if_neg (Int.lt_irrefl _)]
      refine Ev.bind (refNEv _ h32 (by omega)) ?_
      refine Ev.bind (Ev.of (tremaref01_Encode.mono (nrm (rn ps f j))) (En.ref_pure (nrm (rn ps f j)) (by omega))) ?_
      simp only [if_pos (show (0 : Int) ≤ (f : Int) by omega), if_pos (show (f : Int) < (ps.length : Int) by omega), hw1, if_pos (show (0 : Int) ≤ ((j - 1 : Nat) : Int) by omega), if_pos (show ((j - 1 : Nat) : Int) < (ps.length : Int) by omega), if_pos (show out.length < 4398046511104 by omega), rdP hfl, rdP hil, hw, w64 (i := j) (by omega)]
      exact next
    | succ q ih =>
      intro j hj hfj
      have hjl : j < ps.length := by omega
      have hrl := rn_len ps f j (by omega)
      have ih := ih (j + 1) (by omega) (by omega)
      rw [rn_succ ps f j hfj hjl] at ih
      refine Ev.step (fun k => tremaref04_cut.l1.eq_2 ..) ?_
      simp only [if_pos (show (j : Int) < (i : Int) by omega), if_pos (show (0 : Int) ≤ (j : Int) by omega), if_pos (show (j : Int) < (ps.length : Int) by omega), if_pos (show (rn ps f j).length < 35184372088832 by omega), rdP hjl, w64 (i := j) (by omega)]
      exact ih
  have := key (i - f) f (by omega) (Nat.le_refl _)
  rw [rn_self] at this
  exact this
theorem cut_l0 (ps : List SP) (hf : ∀ p ∈ ps, fine p) (hl : ps.length ≤ 10000000) : ∀ (q i f : Nat) (out : List SG), i + q = ps.length → (hfi : f < i) → (h0 : 0 < ps.length) → out.length ≤ f →
    Ev (fun k => tremaref04_cut.l0 k ps out (f : Int) (i : Int)) (out ++ cutR (ps.drop i) (rn ps f i) (ps.getD f ⟨0, 0, 0⟩).f1 ((ps.getD (i - 1) ⟨0, 0, 0⟩).f1 + (ps.getD (i - 1) ⟨0, 0, 0⟩).f2)) := by
  have gD : ∀ j (h : j < ps.length), ps.getD j ⟨0, 0, 0⟩ = ps[j] := fun j h => by rw [List.getD_eq_getElem?_getD, List.getElem?_eq_getElem h]; rfl
  intro q
  induction q with
  | zero =>
    intro i f out hi hfi h0 ho
    obtain rfl : i = ps.length := hi
    refine Ev.step (fun k => tremaref04_cut.l0.eq_2 ..) ?_
    simp only [if_pos (Int.le_refl _), if_neg (Int.lt_irrefl _)]
    refine Ev.step (fun k => tremaref04_cut.j1.eq_2 ..) ?_
    simp only [Bool.false_eq_true, if_false]
    refine cut_l1 ps hf hl out (by omega) f ps.length hfi (Nat.le_refl _) _ ?_
    refine Ev.step (fun k => tremaref04_cut.l0.eq_2 ..) ?_
    simp only [if_neg (show ¬ ((ps.length + 1 : Nat) : Int) ≤ (ps.length : Int) by omega)]
    rw [List.drop_length, cutR, gD f (by omega), gD (ps.length - 1) (by omega)]
    exact Ev.now _
  | succ q ih =>
    intro i f out hi hfi h0 ho
    have hil : i < ps.length := by omega
    have hp := hf ps[i] (List.getElem_mem hil)
    refine Ev.step (fun k => tremaref04_cut.l0.eq_2 ..) ?_
    simp only [if_pos (show (i : Int) ≤ (ps.length : Int) by omega), if_pos (show (i : Int) < (ps.length : Int) by omega), if_pos (show (0 : Int) ≤ (i : Int) by omega), rdP hil]
    refine Ev.bind (refopn _ hp.1) ?_
    refine Ev.step (fun k => tremaref04_cut.j1.eq_2 ..) ?_
    rw [List.drop_eq_getElem_cons hil, cutR]
    by_cases ho2 : opn ps[i].f0 = true
    · simp only [ho2, Bool.not_true, Bool.false_eq_true, if_false, if_true]
      refine cut_l1 ps hf hl out (by omega) f i hfi (by omega) _ ?_
      have ih := ih (i + 1) i (out ++ [⟨txt (rn ps f i), (ps[f]'(by omega)).f1, (ps[i - 1]'(by omega)).f1 + (ps[i - 1]'(by omega)).f2⟩]) (by omega) (by omega) h0 (by rw [List.length_append, List.length_singleton]; omega)
      rw [rn_succ ps i i (Nat.le_refl _) hil, rn_self, List.nil_append, Nat.add_sub_cancel, gD i hil, List.append_assoc, List.singleton_append] at ih
      rw [gD f (by omega), gD (i - 1) (by omega)]
      exact ih
    · have ho3 : opn ps[i].f0 = false := by simpa using ho2
      simp only [ho3, Bool.not_false, if_true, Bool.false_eq_true, if_false, w64 (i := i) (by omega)]
      have ih := ih (i + 1) f out (by omega) (by omega) h0 ho
      rw [rn_succ ps f i (by omega) hil, Nat.add_sub_cancel, gD i hil] at ih
      exact ih
theorem cutEv (ps : List SP) (hf : ∀ p ∈ ps, fine p) (hl : ps.length ≤ 10000000) : Ev (fun k => tremaref04_cut.f k ps) (cutS ps) := by
  unfold tremaref04_cut.f
  cases ps with
  | nil =>
    refine Ev.step (fun k => tremaref04_cut.l0.eq_2 ..) ?_
    simp only [List.length_nil]
    exact Ev.now _
  | cons p t =>
    have h := cut_l0 (p :: t) hf hl t.length 1 0 [] (by simp; omega) (by omega) (by simp) (by simp)
    rw [rn_succ (p :: t) 0 0 (Nat.le_refl _) (by simp), rn_self] at h
    exact h
theorem allEv (b : List Int) (hB : Bytes b) (hl : b.length ≤ 10000000) : Ev (fun k => tremaref04_All.f k b) (cutS (full b)) := by
  unfold tremaref04_All.f
  have hd := Ux.Ref_dec b hB (by omega) false
  refine Ev.bind (Ev.of (tremaref01_Decode.mono b false) hd) ?_
  have hfl := Ud.full_len b
  refine Ev.bind (cutEv (full b) (full_fine b hB (by omega)) (by omega)) ?_
  exact Ev.now _
theorem goodEv (lim : Int) (l : List SG) (hl : l.length ≤ 100000000) (hs : ∀ s ∈ l, s.f0.size ≤ 1000000000) : Ev (fun k => tremaref04_good.f k l lim) (goodS lim l) := by
  unfold tremaref04_good.f
  have key : ∀ q i : Nat, i + q = l.length → (goodS lim l = (l.take i ++ (goodS lim (l.drop i)).1, (goodS lim (l.drop i)).2)) → Ev (fun k => tremaref04_good.l0 k l lim (i : Int)) (goodS lim l) := by
    intro q
    induction q with
    | zero =>
      intro i hi hg
      obtain rfl : i = l.length := hi
      refine Ev.step (fun k => tremaref04_good.l0.eq_2 ..) ?_
      simp only [if_neg (Int.lt_irrefl _)]
      rw [List.drop_length, List.take_length] at hg
      rw [hg]
      simp only [goodS, List.append_nil]
      exact Ev.now _
    | succ q ih =>
      intro i hi hg
      have hil : i < l.length := by omega
      refine Ev.step (fun k => tremaref04_good.l0.eq_2 ..) ?_
      simp only [if_pos (show (i : Int) < (l.length : Int) by omega), if_pos (show (0 : Int) ≤ (i : Int) by omega), rdG hil, tremaref04_Length.f, if_pos (hs l[i] (List.getElem_mem hil)), Option.bind_some, if_pos (show (i : Int) ≤ (l.length : Int) by omega), Int.toNat_natCast, w64 (i := i) (by omega)]
      rw [List.drop_eq_getElem_cons hil, goodS] at hg
      by_cases hlm : lim < (lenF l[i].f0 : Int)
      · rw [if_pos hlm] at hg
        simp only [if_pos (show (lenF l[i].f0 : Int) > lim from hlm)]
        rw [hg]
        simp only [List.append_nil]
        exact Ev.now _
      · rw [if_neg hlm] at hg
        simp only [if_neg (show ¬ (lenF l[i].f0 : Int) > lim from hlm)]
        refine ih (i + 1) (by omega) ?_
        rw [hg, List.take_succ_eq_append_getElem hil, List.append_assoc, List.singleton_append]
  exact key l.length 0 (by omega) (by simp)
theorem txt_size (rs : List Int) (h1 : ∀ x ∈ rs, I32 x) : (txt rs).size ≤ 12 * rs.length := by
  have := nrm_len3 rs h1
  have h := (enc_len (nrm rs)).2
  have e1 : (txt rs).size = (enc (nrm rs)).length := by unfold txt; rw [← bytesOf_length, Ot.bytes_str _ (enc_byte _)]
  rw [e1]
  omega
theorem cutR_size : ∀ (t : List SP) (rs : List Int) (a e : Int), (∀ x ∈ rs, I32 x) → (∀ p ∈ t, fine p) → rs.length + t.length ≤ 80000000 → (∀ s ∈ cutR t rs a e, s.f0.size ≤ 1000000000) ∧ (cutR t rs a e).length ≤ t.length + 1
  | [], rs, a, e, h1, _, h3 => by
    refine ⟨fun s hs => ?_, by simp [cutR]⟩
    rw [cutR, List.mem_singleton] at hs
    rw [hs]
    have h0 := txt_size rs h1
    simp only [List.length_nil] at h3
    show (txt rs).size ≤ _
    omega
  | p :: t, rs, a, e, h1, h2, h3 => by
    have hp := h2 p (List.mem_cons_self ..)
    have ht := fun q hq => h2 q (List.mem_cons_of_mem _ hq)
    rw [List.length_cons] at h3
    rw [cutR]
    split
    · have ih := cutR_size t [p.f0] p.f1 (p.f1 + p.f2) (by intro x hx; rw [List.mem_singleton.1 hx]; exact hp.1) ht (by simp; omega)
      have h0 := txt_size rs h1
      refine ⟨fun s hs => ?_, by simp only [List.length_cons]; omega⟩
      rcases List.mem_cons.1 hs with rfl | hs
      · show (txt rs).size ≤ _
        omega
      · exact ih.1 s hs
    · have ih := cutR_size t (rs ++ [p.f0]) a (p.f1 + p.f2) (by intro x hx; rcases List.mem_append.1 hx with h | h; (· exact h1 x h); (· rw [List.mem_singleton.1 h]; exact hp.1)) ht (by rw [List.length_append, List.length_singleton]; omega)
      exact ⟨ih.1, by simp only [List.length_cons]; omega⟩
theorem cutS_size (ps : List SP) (hf : ∀ p ∈ ps, fine p) (hl : ps.length ≤ 80000000) : (∀ s ∈ cutS ps, s.f0.size ≤ 1000000000) ∧ (cutS ps).length ≤ ps.length := by
  cases ps with
  | nil => exact ⟨by simp [cutS], by simp [cutS]⟩
  | cons p t =>
    have hp := hf p (List.mem_cons_self ..)
    rw [List.length_cons] at hl ⊢
    exact cutR_size t [p.f0] p.f1 (p.f1 + p.f2) (by intro x hx; rw [List.mem_singleton.1 hx]; exact hp.1) (fun q hq => hf q (List.mem_cons_of_mem _ hq)) (by simp; omega)
end Go.Proofs.YthffpkdadffinaaDoor.Sgq
namespace Go.Proofs.YthffpkdadffinaaDoor.Sgr
set_option linter.unusedVariables false
set_option linter.unusedSimpArgs false
open Go.Proofs.YthffpkdadffinaaDoor.Ux (Bytes one1 dc rest1 full dec)
open Go.RowKit Go.Proofs.YthffpkdadffinaaDoorW.PrintWords Go.Proofs.YthffpkdadffinaaDoor.Ev0 Go.Proofs.YthffpkdadffinaaDoor.X Go.Proofs.YthffpkdadffinaaDoor.Oa Go.Proofs.YthffpkdadffinaaDoor.Ob Go.Proofs.YthffpkdadffinaaDoor.Vp0 Go.Proofs.YthffpkdadffinaaDoor.Vr Go.Proofs.YthffpkdadffinaaDoor.Vu Go.Proofs.YthffpkdadffinaaDoor.Sga Go.Proofs.YthffpkdadffinaaDoor.Sgb Go.Proofs.YthffpkdadffinaaDoor.Sgc Go.Proofs.YthffpkdadffinaaDoor.Sgd Go.Proofs.YthffpkdadffinaaDoor.Sgp Go.Proofs.YthffpkdadffinaaDoor.Sgq
theorem fsize (b : List Int) (hB : Bytes b) (hl : b.length ≤ 10000000) : (∀ s ∈ cutS (full b), s.f0.size ≤ 1000000000) ∧ (cutS (full b)).length ≤ b.length := by
  have hfl := Ud.full_len b
  have h := cutS_size (full b) (full_fine b hB (by omega)) (by omega)
  exact ⟨h.1, by omega⟩
theorem splitEv (b : List Int) (hB : Bytes b) (hl : b.length ≤ 10000000) (lim : Int) : Ev (fun k => tremaref04_Split.f k b lim) (splitF lim b) := by
  unfold tremaref04_Split.f
  by_cases h1 : lim < 1
  · simp only [if_pos h1]
    refine Ev.step (fun k => tremaref04_Split.j0.eq_2 ..) ?_
    simp only [if_true]
    have e : splitF lim b = ([], 1) := by unfold splitF; rw [if_pos (Or.inl h1)]
    rw [e]
    exact Ev.now _
  · simp only [if_neg h1]
    refine Ev.step (fun k => tremaref04_Split.j0.eq_2 ..) ?_
    by_cases h2 : lim > 64
    · have e : splitF lim b = ([], 1) := by unfold splitF; rw [if_pos (Or.inr h2)]
      simp only [h2, decide_true, if_true]
      rw [e]
      exact Ev.now _
    · have hs := fsize b hB hl
      rw [split_cut lim b hB (by omega) (by omega) (by omega)]
      simp only [h2, decide_false, Bool.false_eq_true, if_false]
      refine Ev.bind (allEv b hB hl) ?_
      refine Ev.bind (goodEv lim (cutS (full b)) (by omega) hs.1) ?_
      obtain ⟨g1, g2⟩ := goodS lim (cutS (full b))
      cases g2
      · simp only [Bool.false_eq_true, if_false]
        exact Ev.now _
      · simp only [if_true]
        exact Ev.now _
theorem sameSEv (l : List SG) (hl : l.length ≤ 100000000) : Ev (fun k => tremaref04_Same.f k l l) true := by
  unfold tremaref04_Same.f
  simp only [if_true]
  have key : ∀ q i : Nat, i + q = l.length → Ev (fun k => tremaref04_Same.l0 k l l (i : Int)) true := by
    intro q
    induction q with
    | zero =>
      intro i hi
      obtain rfl : i = l.length := hi
      refine Ev.step (fun k => tremaref04_Same.l0.eq_2 ..) ?_
      simp only [if_neg (Int.lt_irrefl _)]
      exact Ev.now _
    | succ q ih =>
      intro i hi
      have ih := ih (i + 1) (by omega)
      refine Ev.step (fun k => tremaref04_Same.l0.eq_2 ..) ?_
      simp only [if_pos (show (i : Int) < (l.length : Int) by omega), if_pos (show (0 : Int) ≤ (i : Int) by omega), beq_self_eq_true, Bool.not_true, Bool.or_self, Bool.false_eq_true, if_false, w64 (i := i) (by omega)]
      exact ih
  exact key l.length 0 (by omega)
theorem bytesB_mk {l : List Int} (h : Bytes l) : bytesB l = true := by
  unfold bytesB
  rw [List.all_eq_true]
  intro x hx
  have := h x hx
  simp
  omega
theorem splitF_len (b : List Int) (hB : Bytes b) (hl : b.length ≤ 10000000) (lim : Int) : (splitF lim b).1.length ≤ b.length := by
  by_cases h : lim < 1 ∨ lim > 64
  · unfold splitF
    rw [if_pos h]
    simp
  · rw [split_cut lim b hB (by omega) (by omega) (by omega)]
    have hs := (fsize b hB hl).2
    have hg : ∀ l : List SG, (goodS lim l).1.length ≤ l.length := by
      intro l
      induction l with
      | nil => simp [goodS]
      | cons x t ih => rw [goodS]; split <;> simp <;> exact ih
    have := hg (cutS (full b))
    show (goodS lim (cutS (full b))).1.length ≤ _
    omega
end Go.Proofs.YthffpkdadffinaaDoor.Sgr
namespace Go.Proofs.YthffpkdadffinaaDoor.Oqe
set_option linter.unusedVariables false
set_option linter.unusedSimpArgs false
open Go.Proofs.YthffpkdadffinaaDoor.Vd (decU)
open Go.RowKit Go.Proofs.YthffpkdadffinaaDoorW.PrintWords Go.Proofs.YthffpkdadffinaaDoor.Ev0 Go.Proofs.YthffpkdadffinaaDoor.X Go.Proofs.YthffpkdadffinaaDoor.Va Go.Proofs.YthffpkdadffinaaDoor.Ve Go.Proofs.YthffpkdadffinaaDoor.Vp0 Go.Proofs.YthffpkdadffinaaDoor.Vr Go.Proofs.YthffpkdadffinaaDoor.Vu Go.Proofs.YthffpkdadffinaaDoor.Na Go.Proofs.YthffpkdadffinaaDoor.Oa Go.Proofs.YthffpkdadffinaaDoor.Ob
theorem nrm_cut (a b : List Int) (hb : b = [] ∨ ∃ z t, flat b = z :: t ∧ cls z = 0) : nrm (a ++ b) = nrm a ++ nrm b := by
  unfold nrm
  rw [flat_app]
  refine ordL_cut _ _ ?_
  rcases hb with rfl | ⟨z, t, h, hz⟩
  · exact .inl rfl
  · exact .inr ⟨z, t, h, hz⟩
theorem opens_cut (l : List Int) (n : Nat) (hn : n < l.length) (ho : opn l[n] = true) : nrm l = nrm (l.take n) ++ nrm (l.drop n) := by
  have h := nrm_cut (l.take n) (l.drop n) (.inr ?_)
  · rwa [List.take_append_drop] at h
  · rw [List.drop_eq_getElem_cons hn, flat_cons]
    have hne := Ve.decF_ne 4 l[n]
    unfold opn at ho
    have h0 : cls ((decU l[n]).getD 0 0) = 0 := by simpa using (Bool.and_eq_true_iff.1 ho).1
    have e : decU l[n] = Vd.decF 4 l[n] := rfl
    rw [← e] at hne
    match hd : decU l[n], hne with
    | z :: t, _ =>
      rw [hd] at h0
      exact ⟨z, t ++ flat (l.drop (n + 1)), by simp, by simpa using h0⟩
end Go.Proofs.YthffpkdadffinaaDoor.Oqe
namespace Go.Proofs.YthffpkdadffinaaDoor.Sgt
set_option linter.unusedVariables false
set_option linter.unusedSimpArgs false
open Go.Proofs.YthffpkdadffinaaDoor.Ux (Bytes one1 bnd st cont dc dc_cons dc_nil dc_ind dc_rest dc_len dc_append rest1 full dec one1_width bnd_len one1_more)
open Go.Proofs.YthffpkdadffinaaDoor.Ve (opn)
open Go.Proofs.YthffpkdadffinaaDoor.Bk (ful ful_nil ful_cons full_ful)
open Go.Proofs.YthffpkdadffinaaDoor.En (enc enc_len enc_byte)
open Go.Proofs.YthffpkdadffinaaDoor.Ot (rns)
open Go.RowKit Go.Proofs.YthffpkdadffinaaDoorW.PrintWords Go.Proofs.YthffpkdadffinaaDoor.Ev0 Go.Proofs.YthffpkdadffinaaDoor.X Go.Proofs.YthffpkdadffinaaDoor.Oa Go.Proofs.YthffpkdadffinaaDoor.Ob Go.Proofs.YthffpkdadffinaaDoor.Vp0 Go.Proofs.YthffpkdadffinaaDoor.Vr Go.Proofs.YthffpkdadffinaaDoor.Vu Go.Proofs.YthffpkdadffinaaDoor.Sga Go.Proofs.YthffpkdadffinaaDoor.Sgb Go.Proofs.YthffpkdadffinaaDoor.Sgc Go.Proofs.YthffpkdadffinaaDoor.Sgd Go.Proofs.YthffpkdadffinaaDoor.Sgp Go.Proofs.YthffpkdadffinaaDoor.Sgq Go.Proofs.YthffpkdadffinaaDoor.Sgr
theorem ful_pos : ∀ (N : Nat) (b : List Int) (p q : Int), b.length ≤ N → (ful b p).map (·.f0) = (ful b q).map (·.f0)
  | _, [], p, q, _ => by rw [ful_nil, ful_nil]
  | 0, c :: t, p, q, h => by simp at h
  | N + 1, c :: t, p, q, h => by
    rw [ful_cons, ful_cons, List.map_cons, List.map_cons]
    have := Ux.drop_lt c t
    rw [ful_pos N _ _ (q + (one1 c t).2.1) (by simp only [List.length_cons] at h; omega)]
theorem rns_ful (b : List Int) (p : Int) : (ful b p).map (·.f0) = rns b := ful_pos b.length b p 0 (Nat.le_refl _)
theorem rns_nil : rns [] = [] := by rw [← rns_ful [] 0, ful_nil]; rfl
theorem rns_cons (c : Int) (t : List Int) : rns (c :: t) = (one1 c t).1 :: rns ((c :: t).drop (one1 c t).2.1.toNat) := by
  rw [← rns_ful _ 0, ful_cons, List.map_cons, rns_ful]
def Inv (b : List Int) (a e : Nat) (rs : List Int) : Prop := ∀ m, e ≤ m → rns ((b.take m).drop a) = rs ++ rns ((b.take m).drop e)
def cutT : List Int → List Int → List ByteArray
  | [], rs => [txt rs]
  | x :: t, rs => if opn x = true then txt rs :: cutT t [x] else cutT t (rs ++ [x])
def cutTS : List Int → List ByteArray
  | [] => []
  | x :: t => cutT t [x]
theorem cutT_app : ∀ (t u : List Int) (rs : List Int) (x : Int), opn x = true → cutT (t ++ x :: u) rs = cutT t rs ++ cutT u [x]
  | [], u, rs, x, h => by rw [List.nil_append]; show (if opn x = true then txt rs :: cutT u [x] else cutT u (rs ++ [x])) = _; rw [if_pos h]; rfl
  | y :: t, u, rs, x, h => by
    rw [List.cons_append, cutT, cutT]
    split
    · rw [cutT_app t u _ x h]; rfl
    · rw [cutT_app t u _ x h]
theorem cutTS_app (r s : List Int) (h : ∀ x t, s = x :: t → opn x = true) : cutTS (r ++ s) = cutTS r ++ cutTS s := by
  cases s with
  | nil => simp [cutTS]
  | cons x u =>
    cases r with
    | nil => rfl
    | cons y t => exact cutT_app t u [y] x (h x u rfl)
end Go.Proofs.YthffpkdadffinaaDoor.Sgt
namespace Go.Proofs.YthffpkdadffinaaDoor.Sgv
set_option linter.unusedVariables false
set_option linter.unusedSimpArgs false
open Go.Proofs.YthffpkdadffinaaDoor.Ux (Bytes full)
open Go.Proofs.YthffpkdadffinaaDoor.Ve (opn)
open Go.Proofs.YthffpkdadffinaaDoor.Ot (rns)
open Go.Proofs.YthffpkdadffinaaDoor.En (enc enc_len enc_byte enc_append)
open Go.RowKit Go.Proofs.YthffpkdadffinaaDoorW.PrintWords Go.Proofs.YthffpkdadffinaaDoor.Ev0 Go.Proofs.YthffpkdadffinaaDoor.X Go.Proofs.YthffpkdadffinaaDoor.Oa Go.Proofs.YthffpkdadffinaaDoor.Ob Go.Proofs.YthffpkdadffinaaDoor.Vp0 Go.Proofs.YthffpkdadffinaaDoor.Vr Go.Proofs.YthffpkdadffinaaDoor.Vu Go.Proofs.YthffpkdadffinaaDoor.Sga Go.Proofs.YthffpkdadffinaaDoor.Sgb Go.Proofs.YthffpkdadffinaaDoor.Sgd Go.Proofs.YthffpkdadffinaaDoor.Sgp Go.Proofs.YthffpkdadffinaaDoor.Sgq Go.Proofs.YthffpkdadffinaaDoor.Sgt
def catB : List ByteArray → ByteArray
  | [] => ⟨#[]⟩
  | x :: t => x ++ catB t
theorem ba_ext {a b : ByteArray} (h : a.data.toList = b.data.toList) : a = b := by
  cases a
  cases b
  exact congrArg ByteArray.mk (Array.toList_inj.1 h)
theorem ba_app (a b : ByteArray) : (a ++ b).data.toList = a.data.toList ++ b.data.toList := by
  rw [ByteArray.data_append, Array.toList_append]
theorem str_app (a b : List Int) : strOfNums (a ++ b) = strOfNums a ++ strOfNums b := by
  refine ba_ext ?_
  rw [ba_app, strOfNums_data, strOfNums_data, strOfNums_data, List.map_append]
theorem txt_app (a b : List Int) (x : Int) (t : List Int) (hb : b = x :: t) (ho : opn x = true) : txt (a ++ b) = txt a ++ txt b := by
  have h := Oqe.opens_cut (a ++ b) a.length (by rw [hb, List.length_append, List.length_cons]; omega) (by rw [List.getElem_append_right (Nat.le_refl _)]; simp [hb, ho])
  rw [List.take_left, List.drop_left] at h
  unfold txt
  rw [h, enc_append, str_app]
theorem cutT_cat : ∀ (t rs : List Int), catB (cutT t rs) = txt (rs ++ t)
  | [], rs => by
    rw [List.append_nil]
    refine ba_ext ?_
    show (txt rs ++ (⟨#[]⟩ : ByteArray)).data.toList = _
    rw [ba_app]
    simp
  | x :: t, rs => by
    rw [cutT]
    split
    · rename_i h
      show txt rs ++ catB (cutT t [x]) = _
      rw [cutT_cat t [x], txt_app rs (x :: t) x t rfl h]
      rfl
    · rw [cutT_cat t (rs ++ [x]), List.append_assoc]
      rfl
theorem cutTS_cat (r : List Int) : catB (cutTS r) = txt r := by
  cases r with
  | nil => rfl
  | cons x t => exact cutT_cat t [x]
end Go.Proofs.YthffpkdadffinaaDoor.Sgv
namespace Go.Proofs.YthffpkdadffinaaDoor.Bkg
set_option linter.unusedVariables false
set_option linter.unusedSimpArgs false
open Go.RowKit Go.Proofs.YthffpkdadffinaaDoorW.PrintWords Go.Proofs.YthffpkdadffinaaDoor.Hp Go.Proofs.YthffpkdadffinaaDoor.Ux Go.Proofs.YthffpkdadffinaaDoor.En Go.Proofs.YthffpkdadffinaaDoor.Rt Go.Proofs.YthffpkdadffinaaDoor.X
theorem vld_bad : vld 65533 = true := by decide
theorem one1_good (c : Int) (t : List Int) (hc : 0 ≤ c ∧ c ≤ 255) (hB : Bytes t) : vld (one1 c t).1 = true ∧ ((one1 c t).1 ≠ 65533 → encv (one1 c t).1 = (c :: t).take (one1 c t).2.1.toNat) := by
  unfold one1 bnd st
  by_cases h1 : c < 128
  · rw [if_pos h1, if_pos h1]
    simp only [cont]
    refine ⟨by simp only [vld, decide_eq_true_eq]; omega, fun _ => ?_⟩
    unfold encv
    rw [if_pos h1]; rfl
  · rw [if_neg h1, if_neg h1]
    by_cases h2 : c < 194 ∨ 244 < c
    · rw [if_pos h2]
      exact ⟨vld_bad, fun h => absurd rfl h⟩
    · rw [if_neg h2]
      by_cases h3 : c < 224
      · rw [if_pos h3, if_pos h3]
        cases t with
        | nil => exact ⟨vld_bad, fun h => absurd rfl h⟩
        | cons x t =>
          simp only [cont]
          by_cases hx : x < 128 ∨ 191 < x
          · rw [if_pos hx]; exact ⟨vld_bad, fun h => absurd rfl h⟩
          · rw [if_neg hx]
            simp only
            refine ⟨by simp only [vld, decide_eq_true_eq]; omega, fun _ => ?_⟩
            unfold encv
            rw [if_neg (by omega), if_pos (by omega)]
            show _ = [c, x]
            congr 1
            · omega
            · congr 1; omega
      · rw [if_neg h3, if_neg h3]
        by_cases h4 : c < 240
        · rw [if_pos h4, if_pos h4]
          cases t with
          | nil => exact ⟨vld_bad, fun h => absurd rfl h⟩
          | cons x t =>
            simp only [cont]
            by_cases hx : x < (if c = 224 then 160 else 128) ∨ (if c = 237 then 159 else 191) < x
            · rw [if_pos hx]; exact ⟨vld_bad, fun h => absurd rfl h⟩
            · rw [if_neg hx]
              cases t with
              | nil => exact ⟨vld_bad, fun h => absurd rfl h⟩
              | cons y t =>
                simp only [cont]
                by_cases hy : y < 128 ∨ 191 < y
                · rw [if_pos hy]; exact ⟨vld_bad, fun h => absurd rfl h⟩
                · rw [if_neg hy]
                  simp only
                  have hx' : (c = 224 → 160 ≤ x) ∧ (c = 237 → x ≤ 159) ∧ 128 ≤ x ∧ x ≤ 191 := by
                    refine ⟨fun h => ?_, fun h => ?_, ?_, ?_⟩
                    · rw [if_pos h] at hx; omega
                    · rw [if_pos h] at hx; omega
                    · split at hx <;> omega
                    · split at hx <;> split at hx <;> omega
                  clear hx
                  refine ⟨by simp only [vld, decide_eq_true_eq]; omega, fun _ => ?_⟩
                  unfold encv
                  rw [if_neg (by omega), if_neg (by omega), if_pos (by omega)]
                  show _ = [c, x, y]
                  congr 1
                  · omega
                  · congr 1
                    · omega
                    · congr 1; omega
        · rw [if_neg h4, if_neg h4]
          cases t with
          | nil => exact ⟨vld_bad, fun h => absurd rfl h⟩
          | cons x t =>
            simp only [cont]
            by_cases hx : x < (if c = 240 then 144 else 128) ∨ (if c = 244 then 143 else 191) < x
            · rw [if_pos hx]; exact ⟨vld_bad, fun h => absurd rfl h⟩
            · rw [if_neg hx]
              cases t with
              | nil => exact ⟨vld_bad, fun h => absurd rfl h⟩
              | cons y t =>
                simp only [cont]
                by_cases hy : y < 128 ∨ 191 < y
                · rw [if_pos hy]; exact ⟨vld_bad, fun h => absurd rfl h⟩
                · rw [if_neg hy]
                  cases t with
                  | nil => exact ⟨vld_bad, fun h => absurd rfl h⟩
                  | cons z t =>
                    simp only [cont]
                    by_cases hz : z < 128 ∨ 191 < z
                    · rw [if_pos hz]; exact ⟨vld_bad, fun h => absurd rfl h⟩
                    · rw [if_neg hz]
                      simp only
                      have hx' : (c = 240 → 144 ≤ x) ∧ (c = 244 → x ≤ 143) ∧ 128 ≤ x ∧ x ≤ 191 := by
                        refine ⟨fun h => ?_, fun h => ?_, ?_, ?_⟩
                        · rw [if_pos h] at hx; omega
                        · rw [if_pos h] at hx; omega
                        · split at hx <;> omega
                        · split at hx <;> split at hx <;> omega
                      clear hx
                      refine ⟨by simp only [vld, decide_eq_true_eq]; omega, fun _ => ?_⟩
                      unfold encv
                      rw [if_neg (by omega), if_neg (by omega), if_neg (by omega)]
                      show _ = [c, x, y, z]
                      congr 1
                      · omega
                      · congr 1
                        · omega
                        · congr 1
                          · omega
                          · congr 1; omega
end Go.Proofs.YthffpkdadffinaaDoor.Bkg
namespace Go.Proofs.YthffpkdadffinaaDoor.Sgw
set_option linter.unusedVariables false
set_option linter.unusedSimpArgs false
open Go.Proofs.YthffpkdadffinaaDoor.Ux (Bytes full one1)
open Go.Proofs.YthffpkdadffinaaDoor.Ve (opn)
open Go.Proofs.YthffpkdadffinaaDoor.Vd (decU keys cases3)
open Go.Proofs.YthffpkdadffinaaDoor.Na (ordL ordL_mem ordL_starter)
open Go.Proofs.YthffpkdadffinaaDoor.Ot (rns)
open Go.Proofs.YthffpkdadffinaaDoor.En (enc enc_len enc_byte enc_append vld fixr)
open Go.RowKit Go.Proofs.YthffpkdadffinaaDoorW.PrintWords Go.Proofs.YthffpkdadffinaaDoor.Ev0 Go.Proofs.YthffpkdadffinaaDoor.X Go.Proofs.YthffpkdadffinaaDoor.Va Go.Proofs.YthffpkdadffinaaDoor.Oa Go.Proofs.YthffpkdadffinaaDoor.Ob Go.Proofs.YthffpkdadffinaaDoor.Vp0 Go.Proofs.YthffpkdadffinaaDoor.Vr Go.Proofs.YthffpkdadffinaaDoor.Vu Go.Proofs.YthffpkdadffinaaDoor.Sga Go.Proofs.YthffpkdadffinaaDoor.Sgb Go.Proofs.YthffpkdadffinaaDoor.Sgd Go.Proofs.YthffpkdadffinaaDoor.Sgp Go.Proofs.YthffpkdadffinaaDoor.Sgq Go.Proofs.YthffpkdadffinaaDoor.Sgt Go.Proofs.YthffpkdadffinaaDoor.Sgv
def Shut (l : List Int) : Prop := ∀ x ∈ l, opn x = false
theorem dec_shut (r : Int) (hr : I32 r) (h : opn r = false) : Shut (decU r) := by
  have hb := bottom r hr
  have ho := opn_first r hr
  intro y hy
  cases hd : decU r with
  | nil => have := hb.lo; rw [hd] at this; simp at this
  | cons z t =>
    rw [hd] at hy ho
    rcases List.mem_cons.1 hy with rfl | hy
    · rw [← h, ← ho]; rfl
    · exact hb.shut y (by rw [hd]; exact hy)
theorem flat_shut (l : List Int) (hl : ∀ x ∈ l, I32 x) (h : Shut l) : Shut (flat l) := by
  intro y hy
  unfold flat at hy
  obtain ⟨x, hx, hy⟩ := List.mem_flatMap.1 hy
  exact dec_shut x (hl x hx) (h x hx) y hy
theorem nrm_shut (l : List Int) (hl : ∀ x ∈ l, I32 x) (h : Shut l) : Shut (nrm l) := fun y hy => flat_shut l hl h y ((ordL_mem _ _).1 hy)
theorem nrm_open (x : Int) (t : List Int) (hl : ∀ y ∈ x :: t, I32 y) (ho : opn x = true) : ∃ y u v, nrm (x :: t) = y :: ordL (u ++ v) ∧ opn y = true ∧ Shut u ∧ v = flat t := by
  have hx := hl x (List.mem_cons_self ..)
  have hb := bottom x hx
  have hf := opn_first x hx
  cases hd : decU x with
  | nil => have := hb.lo; rw [hd] at this; simp at this
  | cons z w =>
    rw [hd] at hf
    have hz : opn z = true := by rw [← ho, ← hf]; rfl
    have hpz := hb.zero z (by rw [hd]; exact List.mem_cons_self ..)
    have hc : cls z = 0 := by
      rw [opn_zero z hpz] at hz
      simpa using (Bool.and_eq_true_iff.1 hz).1
    refine ⟨z, w, flat t, ?_, hz, fun y hy => hb.shut y (by rw [hd]; exact hy), rfl⟩
    unfold nrm
    rw [flat_cons, hd]
    have h := ordL_starter [] (w ++ flat t) hc
    exact h
theorem cutT_shut : ∀ (u rs : List Int), Shut u → cutT u rs = [txt (rs ++ u)]
  | [], rs, _ => by rw [List.append_nil]; rfl
  | x :: u, rs, h => by
    rw [cutT, h x (List.mem_cons_self ..)]
    simp only [Bool.false_eq_true, if_false]
    rw [cutT_shut u _ (fun y hy => h y (List.mem_cons_of_mem _ hy)), List.append_assoc]
    rfl
theorem txt_nrm (l : List Int) (hl : ∀ x ∈ l, I32 x) : txt (nrm l) = txt l := by unfold txt; rw [nrm_id l hl]
theorem seg_nrm (x : Int) (t : List Int) (hl : ∀ y ∈ x :: t, I32 y) (h : Shut t) : cutTS (nrm (x :: t)) = [txt (x :: t)] := by
  have hne : nrm (x :: t) ≠ [] := by
    intro e
    have h1 := nrm_len (x :: t)
    rw [e] at h1
    exact flat_ne (x :: t) (by simp) (List.length_eq_zero_iff.1 h1.symm)
  have hsh : ∃ y u, nrm (x :: t) = y :: u ∧ Shut u := by
    by_cases ho : opn x = true
    · obtain ⟨y, u, v, e, _, hu, hv⟩ := nrm_open x t hl ho
      refine ⟨y, _, e, fun z hz => ?_⟩
      rcases List.mem_append.1 ((ordL_mem _ _).1 hz) with h1 | h1
      · exact hu z h1
      · rw [hv] at h1
        exact flat_shut t (fun y hy => hl y (List.mem_cons_of_mem _ hy)) h z h1
    · have ho2 : opn x = false := by simpa using ho
      have hs := nrm_shut (x :: t) hl (by intro z hz; rcases List.mem_cons.1 hz with rfl | hz; (· exact ho2); (· exact h z hz))
      cases hn : nrm (x :: t) with
      | nil => exact absurd hn hne
      | cons y u => exact ⟨y, u, rfl, fun z hz => hs z (by rw [hn]; exact List.mem_cons_of_mem _ hz)⟩
  obtain ⟨y, u, e, hu⟩ := hsh
  rw [e]
  show cutT u [y] = _
  rw [cutT_shut u [y] hu]
  show [txt (y :: u)] = _
  rw [← e, txt_nrm _ hl]
theorem cut_nrm : ∀ (t : List Int) (x : Int) (v : List Int), (∀ y ∈ (x :: v) ++ t, I32 y) → Shut v → cutTS (nrm ((x :: v) ++ t)) = cutT t (x :: v)
  | [], x, v, hl, hv => by
    rw [List.append_nil] at hl ⊢
    exact seg_nrm x v hl hv
  | z :: t, x, v, hl, hv => by
    have hl1 : ∀ y ∈ x :: v, I32 y := fun y hy => hl y (List.mem_append_left _ hy)
    have hl2 : ∀ y ∈ z :: t, I32 y := fun y hy => hl y (List.mem_append_right _ hy)
    rw [cutT]
    by_cases ho : opn z = true
    · rw [if_pos ho]
      have h := Oqe.opens_cut ((x :: v) ++ z :: t) (x :: v).length (by rw [List.length_append, List.length_cons (a := z)]; omega) (by rw [List.getElem_append_right (Nat.le_refl _)]; simp [ho])
      rw [List.take_left, List.drop_left] at h
      rw [h, cutTS_app, seg_nrm x v hl1 hv]
      · have ih := cut_nrm t z [] (by simpa using hl2) (fun _ h => by cases h)
        simp only [List.singleton_append] at ih ⊢
        rw [ih]
      · intro a b hab
        obtain ⟨y, u, w, e, hy, _⟩ := nrm_open z t hl2 ho
        rw [e] at hab
        rw [← (List.cons.inj hab).1]
        exact hy
    · have ho2 : opn z = false := by simpa using ho
      rw [if_neg ho]
      have e : (x :: v) ++ z :: t = (x :: (v ++ [z])) ++ t := by simp
      rw [e] at hl ⊢
      rw [cut_nrm t x (v ++ [z]) hl (by intro y hy; rcases List.mem_append.1 hy with h | h; (· exact hv y h); (· rw [List.mem_singleton.1 h]; exact ho2))]
      rfl
theorem cutTS_nrm (r : List Int) (hl : ∀ y ∈ r, I32 y) : cutTS (nrm r) = cutTS r := by
  cases r with
  | nil => rfl
  | cons x t => exact cut_nrm t x [] hl (fun _ h => by cases h)
theorem vld_keys : ∀ r ∈ keys, (decU r).all vld = true := by decide +kernel
theorem vld_dec (r : Int) (h : vld r = true) : ∀ y ∈ decU r, vld y = true := by
  rcases cases3 r with h1 | ⟨s, hs, rfl⟩ | h1
  · exact List.all_eq_true.1 (vld_keys r h1)
  · intro y hy
    rw [syl_dec s hs] at hy
    have h5 : y = 4352 + ((s / 588 : Nat) : Int) ∨ y = 4449 + ((s % 588 / 28 : Nat) : Int) ∨ y = 4519 + ((s % 28 : Nat) : Int) := by
      rcases List.mem_append.1 hy with h | h
      · rcases List.mem_cons.1 h with h | h
        · exact .inl h
        · exact .inr (.inl (List.mem_singleton.1 h))
      · split at h
        · cases h
        · exact .inr (.inr (List.mem_singleton.1 h))
    unfold vld
    rw [decide_eq_true_eq]
    omega
  · intro y hy
    rw [dec_zero r h1, List.mem_singleton] at hy
    rw [hy]
    exact h
theorem vld_nrm (l : List Int) (h : ∀ x ∈ l, vld x = true) : ∀ y ∈ nrm l, vld y = true := by
  intro y hy
  have hy := (ordL_mem _ _).1 hy
  unfold flat at hy
  obtain ⟨x, hx, hy⟩ := List.mem_flatMap.1 hy
  exact vld_dec x (h x hx) y hy
theorem vld_rns : ∀ (N : Nat) (b : List Int), b.length ≤ N → Bytes b → ∀ y ∈ rns b, vld y = true
  | _, [], _, _ => by rw [rns_nil]; intro y hy; cases hy
  | 0, c :: t, h, _ => by simp at h
  | N + 1, c :: t, h, hB => by
    rw [rns_cons]
    intro y hy
    rcases List.mem_cons.1 hy with rfl | hy
    · exact (Bkg.one1_good c t (hB c (List.mem_cons_self ..)) (fun x hx => hB x (List.mem_cons_of_mem _ hx))).1
    · have := Ux.drop_lt c t
      exact vld_rns N _ (by simp only [List.length_cons] at h; omega) (fun x hx => hB x (List.mem_of_mem_drop hx)) y hy
theorem rns_enc (l : List Int) (h : ∀ x ∈ l, vld x = true) : rns (enc l) = l := by
  have := Bk.ful_enc l 0
  rw [rns_ful] at this
  rw [this]
  have e : ∀ x ∈ l, fixr x = x := fun x hx => by unfold fixr; rw [if_pos (h x hx)]
  rw [List.map_congr_left (g := id) (by intro x hx; exact e x hx), List.map_id]
theorem r32 (a : List Int) (ha : Bytes a) : ∀ x ∈ rns a, I32 x := Ot.runes32 a ha
theorem key (a b : List Int) (ha : Bytes a) (hb : Bytes b) : cutTS (rns a) = cutTS (rns b) ↔ txt (rns a) = txt (rns b) := by
  constructor
  · intro h
    rw [← cutTS_cat, ← cutTS_cat, h]
  · intro h
    have h1 := Bk.str_inj (enc_byte _) (enc_byte _) h
    have va := vld_nrm _ (vld_rns a.length a (Nat.le_refl _) ha)
    have vb := vld_nrm _ (vld_rns b.length b (Nat.le_refl _) hb)
    have h2 : nrm (rns a) = nrm (rns b) := by rw [← rns_enc _ va, ← rns_enc _ vb, h1]
    rw [← cutTS_nrm _ (r32 a ha), ← cutTS_nrm _ (r32 b hb), h2]
end Go.Proofs.YthffpkdadffinaaDoor.Sgw
namespace Go.Proofs.YthffpkdadffinaaDoor.Od
set_option linter.unusedVariables false
set_option linter.unusedSimpArgs false
open Go.RowKit Go.Proofs.YthffpkdadffinaaDoorW.PrintWords Go.Proofs.YthffpkdadffinaaDoor.Hp Go.ChangeShapes Go.WideShapes
def Opens {α : Type} (P : Program) (t : TypeId) (d : Kd α) (wf : α → Prop) (bulk : α → Nat) : Prop :=
  ∀ (H : Type) (enc : TypeId × Value → H) (w : World) (base : Nat) (spare : Nat → Bool) (held : Bool) (fuel : Nat) (cs : List Value) (x : DataW H × List MemPlace),
    DataW.trod enc P w base spare held fuel t cs = some x → ∃ a, d.K w a cs ∧ wf a ∧ bulk a ≤ Rows.uptoBulk x.1
def sumB {α : Type} (bulk : α → Nat) : List α → Nat
  | [] => 0
  | a :: l => bulk a + sumB bulk l
theorem sumB_len {α : Type} {bulk : α → Nat} (h1 : ∀ a, 1 ≤ bulk a) (l : List α) : l.length ≤ sumB bulk l := by
  induction l with
  | nil => simp [sumB]
  | cons x l ih => simp only [sumB, List.length_cons]; have := h1 x; omega
theorem bulkAll_append {H : Type} (l r : List (DataW H)) : Rows.uptoBulkAll (l ++ r) = Rows.uptoBulkAll l + Rows.uptoBulkAll r := by
  induction l with
  | nil => simp [Rows.uptoBulkAll]
  | cons x l ih => simp only [List.cons_append, Rows.uptoBulkAll, ih]; omega
section
variable {P : Program}
theorem opens_int {t : TypeId} {k : IntKind} (ht : P.underlying t = some (.int k)) : Opens P t (Kd.int k) (fun n => (Lit.int k n).wf = true) (fun _ => 1) := by
  intro H enc w base spare held fuel cs x h
  obtain ⟨n, rfl, rfl, hw⟩ := DataW.trod_int ht h
  exact ⟨n, rfl, hw, by simp [Rows.uptoBulk]⟩
theorem slice_list {α : Type} {d : Kd α} {wf : α → Prop} {bulk : α → Nat} {e : TypeId} {H : Type} {enc : TypeId × Value → H} {w : World} {base : Nat} {spare : Nat → Bool} {held : Bool} (ho : Opens P e d wf bulk) (hC : P.cellsOf e = d.sz) {a : Addr} {m n : Nat} {D : Nat → DataW H} {Pl : Nat → List MemPlace}
    (hx : ∀ i, i < m → ∃ cs', w.cells? base (a.add (i * P.cellsOf e)) (P.cellsOf e) = some cs' ∧ DataW.trod enc P w base spare held n e cs' = some (D i, Pl i)) (len : Nat) (hl : len ≤ m) (hM : len ≤ 9223372036854775807) :
    ∃ xs : List α, xs.length = len ∧ d.C w (some a) len xs ∧ (∀ x, x ∈ xs → wf x) ∧ sumB bulk xs ≤ Rows.uptoBulkAll ((List.range len).map D) := by
  have key : ∀ k, k ≤ len → ∃ xs : List α, xs.length = k ∧ (∀ j p, xs[j]? = some p → ∃ c, c.length = d.sz ∧ d.K w p c ∧ ∀ i u, c[i]? = some u → w.cell? (a.add (j * d.sz + i)) = some u) ∧ (∀ x, x ∈ xs → wf x) ∧ sumB bulk xs ≤ Rows.uptoBulkAll ((List.range k).map D) := by
    intro k
    induction k with
    | zero => exact fun _ => ⟨[], rfl, by simp, by simp, by simp [sumB]⟩
    | succ k ih =>
      intro hk
      obtain ⟨xs, h1, h2, h3, h4⟩ := ih (by omega)
      obtain ⟨cs', hc, ht⟩ := hx k (by omega)
      obtain ⟨p, hK, hw, hb⟩ := ho H enc w base spare held n cs' _ ht
      obtain ⟨_, hcl, hcell⟩ := World.cells?_some hc
      refine ⟨xs ++ [p], by simp [h1], ?_, ?_, ?_⟩
      · intro j q hq
        rw [List.getElem?_append] at hq
        split at hq
        · exact h2 j q hq
        · rename_i hge
          rcases Nat.lt_or_ge (j - xs.length) 1 with h5 | h5
          · have hj : j = k := by omega
            subst hj
            rw [h1, Nat.sub_self] at hq
            simp at hq
            subst hq
            refine ⟨cs', by rw [hcl, hC], hK, fun i u hu => ?_⟩
            have hi : i < P.cellsOf e := by rw [← hcl]; exact (List.getElem?_eq_some_iff.1 hu).1
            have := hcell i hi
            rw [Go.Deep.add_add, hC] at this
            rw [this, hu]
          · rw [List.getElem?_eq_none (by simpa using h5)] at hq; cases hq
      · intro x hx
        rcases List.mem_append.1 hx with hx | hx
        · exact h3 x hx
        · rw [List.mem_singleton.1 hx]; exact hw
      · have e2 : sumB bulk (xs ++ [p]) = sumB bulk xs + bulk p := by
          clear h1 h2 h3 h4
          induction xs with
          | nil => simp [sumB]
          | cons y ys ih2 => simp only [List.cons_append, sumB, ih2]; omega
        rw [e2, List.range_succ, List.map_append, bulkAll_append]
        simp only [List.map_cons, List.map_nil, Rows.uptoBulkAll]
        have hb2 : bulk p ≤ Rows.uptoBulk (D k) := hb
        omega
  obtain ⟨xs, h1, h2, h3, h4⟩ := key len (Nat.le_refl _)
  exact ⟨xs, h1, ⟨h1, hM, fun _ => ⟨a, rfl, h2⟩⟩, h3, h4⟩
theorem arg_slice {α : Type} {d : Kd α} {wf : α → Prop} {bulk : α → Nat} {t e : TypeId} (ht : P.underlying t = some (.slice e)) (hC : P.cellsOf e = d.sz) (ho : Opens P e d wf bulk)
    {H : Type} {enc : TypeId × Value → H} {w : World} {base : Nat} {spare : Nat → Bool} {held : Bool} {v : Value} {data : DataW H} {ps : List MemPlace} {r : Reach} {b0 : Nat} (hv : Value.okWide P w r b0 t v) (h : DataW.Trod enc P w base spare held t v data ps) :
    ∃ A xs c, v = .slice A xs.length c ∧ xs.length ≤ c ∧ d.C w A xs.length xs ∧ (∀ x, x ∈ xs → wf x) ∧ sumB bulk xs + 1 ≤ Rows.uptoBulk data ∧
      (∀ (ts : List TypeId) (ds : List (DataW H)) (j B : Nat), (DataW.weightsEach P ts ds).all (· ≤ reachBytes) = true → ts[j]? = some t → ds[j]? = some data → P.bytesOf e = B → xs.length * B ≤ 140737488351232) := by
  obtain ⟨a0, len0, cap0, rfl⟩ := okWide_slice ht hv
  obtain ⟨fuel, hf⟩ := h
  rcases Go.Deep.open_slice ht hf with ⟨hcs, hx⟩ | ⟨a, len, cap, m, n, D, Pl, hcs, hb, hl, hm, hmm, hx, hi⟩
  · simp [Value.cells] at hcs
    obtain ⟨rfl, rfl, rfl⟩ := hcs
    obtain ⟨rfl, rfl⟩ := Prod.mk.inj hx
    exact ⟨none, [], 0, rfl, Nat.le_refl _, Kd.C_nil d w, by simp, by simp [sumB, Rows.uptoBulk], by simp⟩
  · simp [Value.cells] at hcs
    obtain ⟨rfl, rfl, rfl⟩ := hcs
    obtain ⟨rfl, rfl⟩ := Prod.mk.inj hx
    obtain ⟨xs, h1, h2, h3, h4⟩ := slice_list ho hC hi len0 (by rw [hmm]; split <;> omega) (by simp only [maxLen] at hm; omega)
    subst h1
    refine ⟨some a, xs, cap0, rfl, hl, h2, h3, by simp only [Rows.uptoBulk]; omega, ?_⟩
    intro ts ds j B hsz htj hdj hB
    have z := sized_slice hsz htj hdj ht
    rw [hB] at z
    have hr : reachBytes = 140737488351232 := by decide
    simp only [List.length_map, List.length_range] at z
    rw [hr] at z
    exact Nat.le_trans (Nat.mul_le_mul_right _ (by omega)) z
end
end Go.Proofs.YthffpkdadffinaaDoor.Od
namespace Go.Proofs.YthffpkdadffinaaDoor.Lsl
set_option linter.unusedVariables false
set_option linter.unusedSimpArgs false
open Go.Proofs.YthffpkdadffinaaDoor.Vd (decU)
open Go.Proofs.YthffpkdadffinaaDoor.Fr (K3 T3)
open Go.Proofs.YthffpkdadffinaaDoor.Dc (decT)
open Go.Proofs.YthffpkdadffinaaDoor.Ux (Bytes full dc rest1)
open Go.RowKit Go.Proofs.YthffpkdadffinaaDoorW.PrintWords Go.Proofs.YthffpkdadffinaaDoor.Hp Go.Proofs.YthffpkdadffinaaDoor.Fm Go.Proofs.YthffpkdadffinaaDoor.Ev0 Go.Proofs.YthffpkdadffinaaDoor.X Go.Proofs.YthffpkdadffinaaDoor.Va Go.Proofs.YthffpkdadffinaaDoor.Oa Go.Proofs.YthffpkdadffinaaDoor.Vp0 Go.Proofs.YthffpkdadffinaaDoor.Sga Go.Proofs.YthffpkdadffinaaDoor.Sgb Go.Proofs.YthffpkdadffinaaDoor.Sgc Go.Proofs.YthffpkdadffinaaDoor.Sgd Go.Proofs.YthffpkdadffinaaDoor.Sgp Go.Proofs.YthffpkdadffinaaDoor.Sgq
theorem SameSR (w : World) (A B : Option Addr) (n c m d : Nat) (l k : List SG) (hC : kG.C w A n l) (hn : n = l.length) (hc : n ≤ c) (hD : kG.C w B m k) (hm : m = k.length) (hd : m ≤ d) (hlk : k = l) (hl : n ≤ 100000000) :
    Calls Tryd.prog 17 #[.slice A n c, .slice B m d] w fun e w' => e = .returned (.bool true) ∧ Below w.heap.size w w' := by
  subst hlk hn hm
  obtain ⟨q, hq⟩ := Ev.rounds (Sgr.sameSEv k hl)
  exact (tremaref04_Same.calls q A c k B d k _ w hC hc hD hd hq).mono fun e w' ⟨h1, h2⟩ => ⟨h1, h2.below⟩
def St (lim : Int) (b : List Int) : List SG × List Int × Int × Int × Bool := tk lim (dc b 0).1 [] 0 0
theorem st_app (lim : Int) (b ys : List Int) (h : (St lim b).2.2.2.2 = false) :
    St lim (b ++ ys) = catT (St lim b).1 (tk lim (dc ((dc b 0).2.1 ++ ys) (dc b 0).2.2).1 (St lim b).2.1 (St lim b).2.2.1 (St lim b).2.2.2.1) := by
  unfold St at h ⊢
  rw [Ux.dc_append, tk_app, if_neg (by rw [h]; decide)]
theorem dc_app2 (b ys : List Int) : (dc (b ++ ys) 0).2 = (dc ((dc b 0).2.1 ++ ys) (dc b 0).2.2).2 := by rw [Ux.dc_append]
theorem st_facts (lim : Int) (h1 : 1 ≤ lim) (b : List Int) (hB : Bytes b) (hl : b.length ≤ 1048576) :
    ((St lim b).2.1.length : Int) ≤ lim ∧ (∀ x ∈ (St lim b).2.1, I32 x) ∧ (St lim b).1.length ≤ 1048576 ∧ (dc b 0).2.1.length ≤ 3 ∧ (0 ≤ (dc b 0).2.2 ∧ (dc b 0).2.2 ≤ 1048576) ∧ Bytes (dc b 0).2.1 := by
  have hdl := Ux.dc_len b 0
  have hdr := Ux.dc_rest b 0
  have hff := dec_fine b.length b 0 hB (Int.le_refl _) (by omega)
  have hop := tk_open lim (by omega) (dc b 0).1 [] 0 0 (by simp; omega) (by simp) hff
  refine ⟨hop.1, hop.2.1, ?_, hdr.1, by omega, ?_⟩
  · have := hop.2.2.1
    show (tk lim (dc b 0).1 [] 0 0).1.length ≤ _
    omega
  · exact Dc.dc_bytes hB 0
end Go.Proofs.YthffpkdadffinaaDoor.Lsl
namespace Go.Proofs.YthffpkdadffinaaDoor.Rm
set_option linter.unusedVariables false
set_option linter.unusedSimpArgs false
open Go.RowKit Go.Proofs.YthffpkdadffinaaDoorW.PrintWords Go.Proofs.YthffpkdadffinaaDoor.Hp Go.Proofs.YthffpkdadffinaaDoor.Fm
theorem info_8 : (Tryd.prog.info? 5).map (fun i => (i.zero, i.size, i.bytes)) = some (some (.int .u8 0), 1, 1) := by kernel_rfl
theorem made (k : Nat) : madeCells (Value.int .u8 0).cells k = (nums .u8 (List.replicate k 0)).toArray := by
  apply Array.ext
  · simp [madeCells, nums]
  · intro i h1 h2
    simp [madeCells, nums, Value.cells, Nat.mod_one]
theorem setCells_chg (g : Nat) : ∀ (vs : List Value) (o : Nat) (W : World), Chg (fun b => b = g) W (W.setCells g o vs)
  | [], _, W => Chg.refl _ W
  | v :: vs, o, W => ((Chg.refl (fun b => b = g) W).setCell (p := ⟨g, o, none⟩) (.inl rfl) v).trans (setCells_chg g vs (o + 1) _) (fun _ _ h => h)
theorem blk_setCells {g t : Nat} : ∀ (news olds pre post : List Value) (W : World), W.heap[g]? = some (.cells (pre ++ olds ++ post).toArray t (0, 0)) → olds.length = news.length → (W.setCells g pre.length news).heap[g]? = some (.cells (pre ++ news ++ post).toArray t (0, 0))
  | [], olds, pre, post, W, h, hl => by
    obtain rfl : olds = [] := List.eq_nil_of_length_eq_zero hl
    exact h
  | v :: news, [], pre, post, W, h, hl => by simp at hl
  | v :: news, u :: olds, pre, post, W, h, hl => by
    have h1 := blk_set h pre.length v
    have e : (pre ++ u :: olds ++ post).toArray.setIfInBounds pre.length v = ((pre ++ [v]) ++ olds ++ post).toArray := by
      rw [List.setIfInBounds_toArray]
      congr 1
      simp [List.set_append]
    rw [e] at h1
    have h2 := blk_setCells news olds (pre ++ [v]) post _ h1 (by simpa using hl)
    rw [List.length_append] at h2
    show ((W.setCell ⟨g, pre.length, none⟩ v).setCells g (pre.length + 1) news).heap[g]? = _
    simpa using h2
def blkT (g : Nat) (cells : Array Value) (t : TypeId) : Th :=
  ⟨fun ok w => ok g ∧ w.heap[g]? = some (.cells cells t (0, 0)), fun h hm => ⟨h.1, (hm g h.1 (blk_lt h.2)).trans h.2⟩, fun h => ⟨⟨h.1, blk_lt h.2⟩, h.2⟩⟩
theorem room_reads {W : World} {g : Nat} {zs : List Int} (hb : W.heap[g]? = some (.cells (nums .u8 zs).toArray 5 (0, 0))) (hm : zs.length ≤ 9223372036854775807) (m : Nat) (h : m ≤ zs.length) : ReadsInt W .u8 (some ⟨g, 0, none⟩) m (zs.take m) :=
  (lit_reads (k := .u8) (xs := zs) hb rfl hm).take_ m h
theorem nums_set (zs : List Int) (j : Nat) (x : Int) : ((nums .u8 zs).toArray.setIfInBounds j (.int .u8 x)) = (nums .u8 (zs.set j x)).toArray := by
  rw [List.setIfInBounds_toArray]
  congr 1
  simp [nums, List.map_set]
theorem append_room (W : World) (ty : TypeId) (g c : Nat) (zs : List Int) (hb : W.heap[g]? = some (.cells (nums .u8 zs).toArray 5 (0, 0))) (hz : zs.length = c) (A : Option Addr) (m cA : Nat) (bs : List Int) (hB : ReadsInt W .u8 A m bs) (hm : m ≤ c) :
    ∃ W', (Builtin.append_ #[23, 23] ty #[.slice (some ⟨g, 0, none⟩) 0 c, .slice A m cA]).run Tryd.prog W = .ok (.slice (some ⟨g, 0, none⟩) m c) W' ∧ W'.heap[g]? = some (.cells (nums .u8 (bs ++ zs.drop m)).toArray 5 (0, 0)) ∧ Chg (fun b => b = g) W W' := by
  obtain ⟨i8, hi8, hz8⟩ := Option.map_eq_some_iff.1 info_8
  simp only [Prod.mk.injEq] at hz8
  have hl := hB.1
  rcases Nat.eq_zero_or_pos m with rfl | hm0
  · have hbs : bs = [] := List.eq_nil_of_length_eq_zero hl
    subst hbs
    refine ⟨W, ?_, by simpa using hb, Chg.refl _ W⟩
    cases A with
    | none => simp [Builtin.append_, run_underlying Tryd.underlying23, sizeOf, typeInfo, hi8, Builtin.lenOf, Builtin.firstCells, storeCells, loadCells]
    | some a =>
      have := run_append_room_cells (P := Tryd.prog) W 23 ty 5 i8 Tryd.underlying23 hi8 g 0 0 c a 0 cA [] (by simp) (by simp) (by simp) (Nat.zero_le _) (by simp) (by simp)
      simpa [World.setCells] using this
  · obtain ⟨a, rfl, hcell⟩ := hB.2.2 hm0
    have hcells : ∀ j, j < (nums .u8 bs).length → (W.cell? ⟨g, 0 + 0 * i8.size + j, none⟩).isSome = true := by
      intro j hj
      have hj2 : j < bs.length := by simpa [nums] using hj
      rw [blk_cell hb]
      simp [nums]
      omega
    have hfr : ∀ j, j < (nums .u8 bs).length → W.frozen? ⟨g, 0 + 0 * i8.size + j, none⟩ = false := fun j _ => blk_frozen hb _
    have h1 := run_append_room_cells (P := Tryd.prog) W 23 ty 5 i8 Tryd.underlying23 hi8 g 0 0 c a m cA (nums .u8 bs) (by rw [hz8.2.1]; simp [nums, hl]) (fun j u hu => by
      have hj : j < bs.length := by
        have := (List.getElem?_eq_some_iff.1 hu).1
        simpa [nums] using this
      rw [hcell j (by omega)]
      simp [nums, List.getElem?_eq_getElem hj] at hu
      rw [← hu]
      simp [List.getElem?_eq_getElem hj]) (by intro u hu; simp [nums] at hu; obtain ⟨x, _, rfl⟩ := hu; rfl) (by omega) hcells hfr
    rw [show 0 + m = m by omega] at h1
    refine ⟨_, h1, ?_, setCells_chg g _ _ _⟩
    have h2 := blk_setCells (g := g) (t := 5) (nums .u8 bs) (nums .u8 (zs.take m)) [] (nums .u8 (zs.drop m)) W (by rw [List.nil_append, ← nums_append, List.take_append_drop]; exact hb) (by simp [nums, hl]; omega)
    rw [List.nil_append, ← nums_append] at h2
    simpa using h2
end Go.Proofs.YthffpkdadffinaaDoor.Rm
