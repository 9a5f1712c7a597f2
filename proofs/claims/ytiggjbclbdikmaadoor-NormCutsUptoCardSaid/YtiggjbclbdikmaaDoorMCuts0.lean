/-
  NormCuts: for every input of bulk at most 1048576 the law returns true and its arguments read as before.
-/
import Derived.Test.YtiggjbclbdikmaaDoorWFour
import Derived.Test.YtiggjbclbdikmaaDoorMN0
import Derived.Test.YtiggjbclbdikmaaDoorMN2
import Derived.Test.YtiggjbclbdikmaaDoorMN1
import Derived.Test.YtiggjbclbdikmaaDoorMN4
import Derived.Test.YtiggjbclbdikmaaDoorMN3
import Derived.Test.YtiggjbclbdikmaaDoorRows
import Derived.Test.YtiggjbclbdikmaaDoorTie
import Derived.Test.YtiggjbclbdikmaaDoorCards
import Derived.WalkKit
import Derived.ProofKit
import Derived.OpenShut
import Derived.ShutString
import Derived.ChangeOld
import Derived.Below
import Derived.SizedLaws
import Derived.JoinedCond
import Derived.SevenTiedAt
import Derived.LaidMore
import Derived.Stop.Joined
import Derived.Deep.DeepHandedRow
import Derived.Deep.DeepWitnessRowRef
-- Written by a program of this session (xprint.py), over the kit's print.
namespace Go.Proofs.YtiggjbclbdikmaaDoor.X
open Go.RowKit Go.Proofs.YtiggjbclbdikmaaDoorW.PrintWords Go.Proofs.YtiggjbclbdikmaaDoorW.PrintLast Go.Proofs.YtiggjbclbdikmaaDoorW.PrintMore
attribute [local go_sem] max2_int min2_int max_two min_two max_three min_three max_four min_four   -- for this text's walks alone
set_option linter.unusedVariables false
set_option linter.unusedSimpArgs false

/-! ### tremalaw03_NormCuts: function 7 -/
def tremalaw03_NormCuts.f (k : Nat) (l0 : List Int) (a1 : Int) : Option (Bool) := (tremalaw03_fixed.f).bind fun t371 => (if t371 = true then (if (l0.length : Int) = 0 then ((norm_Normal.f k l0).bind fun t372 => (some ((t372.length : Int) == 0))) else (if (IntKind.u64.wrap ((l0.length : Int))) = 0 then (none) else (if 0 ≤ (wrap64 (Int.tmod (IntKind.u64.wrap (a1)) (IntKind.u64.wrap ((l0.length : Int))))) then (if (wrap64 (Int.tmod (IntKind.u64.wrap (a1)) (IntKind.u64.wrap ((l0.length : Int))))) < (l0.length : Int) then ((tremaref02_Opens.f k (rd l0 (wrap64 (Int.tmod (IntKind.u64.wrap (a1)) (IntKind.u64.wrap ((l0.length : Int))))))).bind fun t376 => (if t376 = true then (if (wrap64 (Int.tmod (IntKind.u64.wrap (a1)) (IntKind.u64.wrap ((l0.length : Int))))) ≤ (l0.length : Int) then ((norm_Normal.f k (l0.take ((wrap64 (Int.tmod (IntKind.u64.wrap (a1)) (IntKind.u64.wrap ((l0.length : Int))))) : Int).toNat)).bind fun t378 => ((norm_Normal.f k (l0.drop ((wrap64 (Int.tmod (IntKind.u64.wrap (a1)) (IntKind.u64.wrap ((l0.length : Int))))) : Int).toNat)).bind fun t382 => (if t378.length + t382.length < 35184372088832 then ((norm_Normal.f k l0).bind fun t388 => ((tremaref01_SameRunes.f k (t378 ++ t382) t388).bind fun t391 => (some t391))) else (none)))) else (none)) else (some true))) else (none)) else (none)))) else (some false))
theorem tremalaw03_NormCuts.mono : ∀ a0 a1 k, LeO (tremalaw03_NormCuts.f k a0 a1) (tremalaw03_NormCuts.f (k + 1) a0 a1) := by
 intro a0 a1 k
 unfold tremalaw03_NormCuts.f
 repeat' first
   | (with_reducible exact norm_Normal.mono _ _)
   | (with_reducible exact tremaref01_SameRunes.mono _ _ _)
   | (with_reducible exact tremaref02_Opens.mono _ _)
   | (with_reducible exact LeO.refl _)
   | (with_reducible exact LeO.none _)
   | (with_reducible refine LeO.ite ?_ ?_)
   | (with_reducible refine LeO.bind ?_ (fun _ => ?_))
   | exact norm_Normal.mono _ _
   | exact tremaref01_SameRunes.mono _ _ _
   | exact tremaref02_Opens.mono _ _
   | exact LeO.none _
   | refine LeO.ite ?_ ?_
   | refine LeO.bind ?_ (fun _ => ?_)
def tremalaw03_NormCuts.T8 : Bool × List (List Nat × List Nat) := (true, [([], []), ([], []), ([0, 1], [0, 1]), ([2], [2]), ([], []), ([], []), ([4, 5], [4, 5]), ([6, 3], [6]), ([3, 7, 7], [3, 7]), ([], []), ([9, 8], [9]), ([8, 10, 10], [8, 10]), ([11, 11, 0, 1, 2, 3, 4, 5, 6, 7, 8, 9, 10, 11], [11])])
def tremalaw03_NormCuts.B8 : List Nat := [0, 0, 3, 7, 0, 0, 48, 127, 255, 0, 1023, 2047, 4095]
theorem tremalaw03_NormCuts.tab8 : rtab .any (opsOf Tryd.f7 8) = tremalaw03_NormCuts.T8 := by kernel_rfl
theorem tremalaw03_NormCuts.bits8 : waitsOk tremalaw03_NormCuts.T8.2 tremalaw03_NormCuts.B8 = true := by kernel_rfl
set_option maxHeartbeats 8000000 in
set_option maxRecDepth 100000 in
theorem tremalaw03_NormCuts.calls (k : Nat) (A0 : Option Addr) (c0 : Nat) (l0 : List Int) (a1 : Int) (r : Bool) (w : World) (hr0 : Kd.C (Kd.int .i32) w A0 l0.length l0) (hc0 : l0.length ≤ c0) (h : tremalaw03_NormCuts.f k l0 a1 = some r) (hG0 : Va.G w) :
  Calls Tryd.prog 7 #[.slice A0 l0.length c0, .int .i64 a1] w fun e w' => e = .returned (.bool r) ∧ Below w.heap.size w w' := by
 have HG := Aside0.mk hG0
 clear hG0
 have HR0 := Aside0.mk hr0
 have HC0 := Aside0.mk hc0
 clear hr0 hc0
 have HB := Aside0.mk (Below.refl w.heap.size w)
 have H : ((tremalaw03_fixed.f).bind fun t371 => (if t371 = true then (if (l0.length : Int) = 0 then ((norm_Normal.f k l0).bind fun t372 => (some ((t372.length : Int) == 0))) else (if (IntKind.u64.wrap ((l0.length : Int))) = 0 then (none) else (if 0 ≤ (wrap64 (Int.tmod (IntKind.u64.wrap (a1)) (IntKind.u64.wrap ((l0.length : Int))))) then (if (wrap64 (Int.tmod (IntKind.u64.wrap (a1)) (IntKind.u64.wrap ((l0.length : Int))))) < (l0.length : Int) then ((tremaref02_Opens.f k (rd l0 (wrap64 (Int.tmod (IntKind.u64.wrap (a1)) (IntKind.u64.wrap ((l0.length : Int))))))).bind fun t376 => (if t376 = true then (if (wrap64 (Int.tmod (IntKind.u64.wrap (a1)) (IntKind.u64.wrap ((l0.length : Int))))) ≤ (l0.length : Int) then ((norm_Normal.f k (l0.take ((wrap64 (Int.tmod (IntKind.u64.wrap (a1)) (IntKind.u64.wrap ((l0.length : Int))))) : Int).toNat)).bind fun t378 => ((norm_Normal.f k (l0.drop ((wrap64 (Int.tmod (IntKind.u64.wrap (a1)) (IntKind.u64.wrap ((l0.length : Int))))) : Int).toNat)).bind fun t382 => (if t378.length + t382.length < 35184372088832 then ((norm_Normal.f k l0).bind fun t388 => ((tremaref01_SameRunes.f k (t378 ++ t382) t388).bind fun t391 => (some t391))) else (none)))) else (none)) else (some true))) else (none)) else (none)))) else (some false))) = some r := h
 clear h
 replace H := Option.bind_eq_some_iff.mp H
 obtain ⟨t371, A30, H⟩ := H
 replace H : (if t371 = true then (if (l0.length : Int) = 0 then ((norm_Normal.f k l0).bind fun t372 => (some ((t372.length : Int) == 0))) else (if (IntKind.u64.wrap ((l0.length : Int))) = 0 then (none) else (if 0 ≤ (wrap64 (Int.tmod (IntKind.u64.wrap (a1)) (IntKind.u64.wrap ((l0.length : Int))))) then (if (wrap64 (Int.tmod (IntKind.u64.wrap (a1)) (IntKind.u64.wrap ((l0.length : Int))))) < (l0.length : Int) then ((tremaref02_Opens.f k (rd l0 (wrap64 (Int.tmod (IntKind.u64.wrap (a1)) (IntKind.u64.wrap ((l0.length : Int))))))).bind fun t376 => (if t376 = true then (if (wrap64 (Int.tmod (IntKind.u64.wrap (a1)) (IntKind.u64.wrap ((l0.length : Int))))) ≤ (l0.length : Int) then ((norm_Normal.f k (l0.take ((wrap64 (Int.tmod (IntKind.u64.wrap (a1)) (IntKind.u64.wrap ((l0.length : Int))))) : Int).toNat)).bind fun t378 => ((norm_Normal.f k (l0.drop ((wrap64 (Int.tmod (IntKind.u64.wrap (a1)) (IntKind.u64.wrap ((l0.length : Int))))) : Int).toNat)).bind fun t382 => (if t378.length + t382.length < 35184372088832 then ((norm_Normal.f k l0).bind fun t388 => ((tremaref01_SameRunes.f k (t378 ++ t382) t388).bind fun t391 => (some t391))) else (none)))) else (none)) else (some true))) else (none)) else (none)))) else (some false)) = some r := H
 have A3 := Aside0.mk A30
 clear A30
 by_cases c4 : t371 = true
 ·subst c4
  have H1 : (if (l0.length : Int) = 0 then ((norm_Normal.f k l0).bind fun t372 => (some ((t372.length : Int) == 0))) else (if (IntKind.u64.wrap ((l0.length : Int))) = 0 then (none) else (if 0 ≤ (wrap64 (Int.tmod (IntKind.u64.wrap (a1)) (IntKind.u64.wrap ((l0.length : Int))))) then (if (wrap64 (Int.tmod (IntKind.u64.wrap (a1)) (IntKind.u64.wrap ((l0.length : Int))))) < (l0.length : Int) then ((tremaref02_Opens.f k (rd l0 (wrap64 (Int.tmod (IntKind.u64.wrap (a1)) (IntKind.u64.wrap ((l0.length : Int))))))).bind fun t376 => (if t376 = true then (if (wrap64 (Int.tmod (IntKind.u64.wrap (a1)) (IntKind.u64.wrap ((l0.length : Int))))) ≤ (l0.length : Int) then ((norm_Normal.f k (l0.take ((wrap64 (Int.tmod (IntKind.u64.wrap (a1)) (IntKind.u64.wrap ((l0.length : Int))))) : Int).toNat)).bind fun t378 => ((norm_Normal.f k (l0.drop ((wrap64 (Int.tmod (IntKind.u64.wrap (a1)) (IntKind.u64.wrap ((l0.length : Int))))) : Int).toNat)).bind fun t382 => (if t378.length + t382.length < 35184372088832 then ((norm_Normal.f k l0).bind fun t388 => ((tremaref01_SameRunes.f k (t378 ++ t382) t388).bind fun t391 => (some t391))) else (none)))) else (none)) else (some true))) else (none)) else (none)))) = some r := by rw [if_pos rfl] at H; exact H
  clear H
  have H := H1
  clear H1
  by_cases c5 : (l0.length : Int) = 0
  ·rw [if_pos c5] at H
   have c5b0 : ((l0.length : Int) == 0) = true := beq_iff_eq.mpr c5
   have c5b1 : ((l0.length : Int) != 0) = false := bne_eq_false_iff_eq.mpr c5
   clear c5
   replace H := Option.bind_eq_some_iff.mp H
   obtain ⟨t372, A60, H⟩ := H
   replace H : (some ((t372.length : Int) == 0)) = some r := H
   have A6 := Aside0.mk A60
   clear A60
   obtain rfl := Option.some.inj H
   go_enter Tryd.func7, Tryd.ntmps7
   go_wp2_with (first | ((with_reducible refine gate_callee (f := 19) rfl ?_); refine goesL_ (some 6) rfl rfl Tryd.func19 (by kernel_rfl) rfl #[] rfl (by (try simp only [List.map_toArray, List.map_cons, List.map_nil]); first | done | rfl | (simp only [List.length_drop, List.length_take]; rfl)) ?_; (with_reducible refine (tremalaw03_fixed.calls  true _ A3.out (by first | exact HG.out | exact Va.G.below HG.out (by repeat (first | (with_reducible first | exact HB.out | apply below_alloc | apply pw_below_drewN | apply below_drew1) | exact HB.out)))).mono ?_); rintro e w7 ⟨rfl, hb⟩; refine ⟨_, rfl, ?_⟩; have n0_ := Aside0.mk (below_step (by repeat (first | (with_reducible first | exact HB.out | apply below_alloc | apply pw_below_drewN | apply below_drew1) | exact HB.out)) hb); clear HB; have HB := n0_; clear n0_; (try clear hb); (try clear hb2); (try clear hk); (try clear hi)) | ((with_reducible refine gate_callee (f := 22) rfl ?_); refine goesL_ (some 12) rfl rfl Tryd.func22 (by kernel_rfl) rfl #[.slice A0 l0.length c0] rfl (by (try simp only [List.map_toArray, List.map_cons, List.map_nil]); first | done | rfl | (simp only [List.length_drop, List.length_take]; rfl)) ?_; (with_reducible refine (norm_Normal.calls k _ _ l0 t372 _ ?side1 ?side2 A6.out (by first | exact HG.out | exact Va.G.below HG.out (by repeat (first | (with_reducible first | exact HB.out | apply below_alloc | apply pw_below_drewN | apply below_drew1) | exact HB.out)))).mono ?_); (case side1 => repeat (first | exact (Kd.C_below HR0.out HB.out) | (with_reducible refine Kd.C_alloc ?_ _) | (with_reducible refine Kd.C_drewN ?_ _) | (with_reducible refine Kd.C_drew ?_))); (case side2 => exact HC0.out); rintro e w8 ⟨v373, rfl, ho0, hb⟩; refine ⟨_, rfl, ?_⟩; have n0_ := Aside0.mk (Kd.R_lower ho0 (below_size (by repeat (first | (with_reducible first | exact HB.out | apply below_alloc | apply pw_below_drewN | apply below_drew1) | exact HB.out)))); have n1_ := Aside0.mk (below_step (by repeat (first | (with_reducible first | exact HB.out | apply below_alloc | apply pw_below_drewN | apply below_drew1) | exact HB.out)) hb); clear HB; have HO374 := n0_; have HB := n1_; clear n0_ n1_; (try clear hb); (try clear hb2); (try clear hk); (try clear hi); (try clear ho0); obtain ⟨Ao9, co9, eo9⟩ := Kd.R_slice HO374.out; subst eo9))
   go_ret
   exact ⟨by first | rfl | (simp [errW_none, errW_some] <;> rfl) | (simp [*, errW_none, errW_some] <;> rfl), by repeat (first | (with_reducible first | exact HB.out | apply below_alloc | apply pw_below_drewN | apply below_drew1) | exact HB.out)⟩
  ·rw [if_neg c5] at H
   have c5b0 : ((l0.length : Int) == 0) = false := beq_eq_false_iff_ne.mpr c5
   have c5b1 : ((l0.length : Int) != 0) = true := bne_iff_ne.mpr c5
   have c5b2 : ¬ (l0 = []) := fun h_ => c5 (by rw [h_]; rfl)
   by_cases c10 : (IntKind.u64.wrap ((l0.length : Int))) = 0
   ·rw [if_pos c10] at H
    exact absurd H (by simp)
   ·rw [if_neg c10] at H
    have c10b0 : ((IntKind.u64.wrap ((l0.length : Int))) == 0) = false := beq_eq_false_iff_ne.mpr c10
    have c10b1 : ((IntKind.u64.wrap ((l0.length : Int))) != 0) = true := bne_iff_ne.mpr c10
    obtain ⟨ji11, hji11⟩ : ∃ j_ : Int, (wrap64 (Int.tmod (IntKind.u64.wrap (a1)) (IntKind.u64.wrap ((l0.length : Int))))) = j_ := ⟨_, rfl⟩
    replace H : (if 0 ≤ (ji11) then (if (ji11) < (l0.length : Int) then ((tremaref02_Opens.f k (rd l0 (ji11))).bind fun t376 => (if t376 = true then (if (ji11) ≤ (l0.length : Int) then ((norm_Normal.f k (l0.take ((ji11) : Int).toNat)).bind fun t378 => ((norm_Normal.f k (l0.drop ((ji11) : Int).toNat)).bind fun t382 => (if t378.length + t382.length < 35184372088832 then ((norm_Normal.f k l0).bind fun t388 => ((tremaref01_SameRunes.f k (t378 ++ t382) t388).bind fun t391 => (some t391))) else (none)))) else (none)) else (some true))) else (none)) else (none)) = some r := by first | (rw [hji11] at H; exact H) | (simp only [hji11] at H ⊢; exact H)
    (try rw [hji11] at A3)
    have hji11w : (IntKind.i64.wrap (Int.tmod (IntKind.u64.wrap (a1)) (IntKind.u64.wrap ((l0.length : Int))))) = ji11 := (i64_w _).trans hji11
    by_cases c12 : 0 ≤ (ji11)
    ·rw [if_pos c12] at H
     have c12b0 : decide (0 ≤ (ji11)) = true := decide_eq_true c12
     clear c12
     by_cases c13 : (ji11) < (l0.length : Int)
     ·rw [if_pos c13] at H
      have c13b0 : decide ((ji11) < (l0.length : Int)) = true := decide_eq_true c13
      clear c13
      replace H := Option.bind_eq_some_iff.mp H
      obtain ⟨t376, A140, H⟩ := H
      replace H : (if t376 = true then (if (ji11) ≤ (l0.length : Int) then ((norm_Normal.f k (l0.take ((ji11) : Int).toNat)).bind fun t378 => ((norm_Normal.f k (l0.drop ((ji11) : Int).toNat)).bind fun t382 => (if t378.length + t382.length < 35184372088832 then ((norm_Normal.f k l0).bind fun t388 => ((tremaref01_SameRunes.f k (t378 ++ t382) t388).bind fun t391 => (some t391))) else (none)))) else (none)) else (some true)) = some r := H
      have A14 := Aside0.mk A140
      clear A140
      by_cases c15 : t376 = true
      ·subst c15
       have H1 : (if (ji11) ≤ (l0.length : Int) then ((norm_Normal.f k (l0.take ((ji11) : Int).toNat)).bind fun t378 => ((norm_Normal.f k (l0.drop ((ji11) : Int).toNat)).bind fun t382 => (if t378.length + t382.length < 35184372088832 then ((norm_Normal.f k l0).bind fun t388 => ((tremaref01_SameRunes.f k (t378 ++ t382) t388).bind fun t391 => (some t391))) else (none)))) else (none)) = some r := by rw [if_pos rfl] at H; exact H
       clear H
       have H := H1
       clear H1
       have c16b0 := eq_true (of_decide_eq_true (by first | (with_reducible assumption) | assumption) : 0 ≤ (ji11))
       by_cases c17 : (ji11) ≤ (l0.length : Int)
       ·rw [if_pos c17] at H
        have c17b0 := eq_true c17
        have c17b1 : decide ((ji11) ≤ (l0.length : Int)) = true := decide_eq_true c17
        clear c17
        replace H := Option.bind_eq_some_iff.mp H
        obtain ⟨t378, A180, H⟩ := H
        replace H : ((norm_Normal.f k (l0.drop ((ji11) : Int).toNat)).bind fun t382 => (if t378.length + t382.length < 35184372088832 then ((norm_Normal.f k l0).bind fun t388 => ((tremaref01_SameRunes.f k (t378 ++ t382) t388).bind fun t391 => (some t391))) else (none))) = some r := H
        have A18 := Aside0.mk A180
        clear A180
        have c19b0 := eq_true (of_decide_eq_true (by first | (with_reducible assumption) | assumption) : 0 ≤ (ji11))
        have c20b0 := eq_true (of_decide_eq_true (by first | (with_reducible assumption) | assumption) : (ji11) ≤ (l0.length : Int))
        replace H := Option.bind_eq_some_iff.mp H
        obtain ⟨t382, A210, H⟩ := H
        replace H : (if t378.length + t382.length < 35184372088832 then ((norm_Normal.f k l0).bind fun t388 => ((tremaref01_SameRunes.f k (t378 ++ t382) t388).bind fun t391 => (some t391))) else (none)) = some r := H
        have A21 := Aside0.mk A210
        clear A210
        by_cases c22 : t378.length + t382.length < 35184372088832
        ·rw [if_pos c22] at H
         have LMc22 := Aside0.mk c22
         clear c22
         obtain ⟨y385, hy385⟩ : ∃ y_ : List Int, y_ = (t378 ++ t382) := ⟨_, rfl⟩
         replace H : ((norm_Normal.f k l0).bind fun t388 => ((tremaref01_SameRunes.f k y385 t388).bind fun t391 => (some t391))) = some r := by first | (rw [hy385]; with_reducible exact H) | (have H2_ := (Option.bind_some _ _).symm.trans H; rw [hy385]; with_reducible exact H2_) | (have H2_ := (Option.bind_some _ _).symm.trans H; with_reducible exact H2_) | with_reducible exact H | (rw [hy385]; exact H) | exact H
         have Ny385 := Aside0.mk hy385
         clear hy385
         replace H := Option.bind_eq_some_iff.mp H
         obtain ⟨t388, A230, H⟩ := H
         replace H : ((tremaref01_SameRunes.f k y385 t388).bind fun t391 => (some t391)) = some r := H
         have A23 := Aside0.mk A230
         clear A230
         replace H := Option.bind_eq_some_iff.mp H
         obtain ⟨t391, A240, H⟩ := H
         replace H : (some t391) = some r := H
         have A24 := Aside0.mk A240
         clear A240
         obtain rfl := Option.some.inj H
         go_enter Tryd.func7, Tryd.ntmps7
         try go_wp2_with (first | ((with_reducible refine gate_callee (f := 19) rfl ?_); refine goesL_ (some 6) rfl rfl Tryd.func19 (by kernel_rfl) rfl #[] rfl (by (try simp only [List.map_toArray, List.map_cons, List.map_nil]); first | done | rfl | (simp only [List.length_drop, List.length_take]; rfl)) ?_; (with_reducible refine (tremalaw03_fixed.calls  true _ A3.out (by first | exact HG.out | exact Va.G.below HG.out (by repeat (first | (with_reducible first | exact HB.out | apply below_alloc | apply pw_below_drewN | apply below_drew1) | exact HB.out)))).mono ?_); rintro e w25 ⟨rfl, hb⟩; refine ⟨_, rfl, ?_⟩; have n0_ := Aside0.mk (below_step (by repeat (first | (with_reducible first | exact HB.out | apply below_alloc | apply pw_below_drewN | apply below_drew1) | exact HB.out)) hb); clear HB; have HB := n0_; clear n0_; (try clear hb); (try clear hb2); (try clear hk); (try clear hi); have p375 : 0 ≤ ((ji11) : Int) := of_decide_eq_true (by first | (with_reducible assumption) | assumption); have q375 : (ji11) < (l0.length : Int) := of_decide_eq_true (by first | (with_reducible assumption) | assumption); obtain ⟨ad375, e375, hx375_0⟩ := Kd.at_int HR0.out (ji11) p375 q375; cases e375; replace hx375_0 := (HB.out.cell (World.block_lt_of_cell? w _ hx375_0)).trans hx375_0; replace p375 := eq_true p375; replace q375 := eq_true q375) | ((with_reducible refine gate_callee (f := 35) rfl ?_); refine goesL_ (some 26) rfl rfl Tryd.func35 (by kernel_rfl) rfl #[.int .i32 (rd l0 (ji11))] rfl (by (try simp only [List.map_toArray, List.map_cons, List.map_nil]); first | done | (simp only [hji11]; rfl) | rfl | (simp only [List.length_drop, List.length_take]; rfl)) ?_; (with_reducible refine (tremaref02_Opens.calls k (rd l0 (ji11)) true _ A14.out).mono ?_); rintro e w26 ⟨rfl, hb⟩; refine ⟨_, rfl, ?_⟩; have n0_ := Aside0.mk (below_step (by repeat (first | (with_reducible first | exact HB.out | apply below_alloc | apply pw_below_drewN | apply below_drew1) | exact HB.out)) hb); clear HB; have HB := n0_; clear n0_; (try clear hb); (try clear hb2); (try clear hk); (try clear hi)))
         have n0_ := Aside0.mk (below_drew1 HB.out)
         clear HB
         have HB := n0_
         clear n0_
         obtain ⟨i028, hi028, _, hsz28, _⟩ := info_parts info21
         obtain ⟨hcut28, hA28, hC28⟩ := print_take_of (P := Tryd.prog) (Value.int .i32) 0 22 21 .i64 Tryd.underlying22 hi028 hsz28 (some ad375) c0 l0 (ji11) (of_decide_eq_true (by first | (with_reducible assumption) | assumption)) (of_decide_eq_true (by first | (with_reducible assumption) | assumption)) HC0.out
         have HR377 := Aside0.mk (Kd.C_of_reads (h1 := fun _ => rfl) (hA28 _ (Kd.reads_of_C HR0.out)))
         have HC377 := Aside0.mk hC28
         clear hA28 hC28 hi028 hsz28
         obtain ⟨i029, hi029, _, hsz29, _⟩ := info_parts info21
         obtain ⟨A29, hcut29, hA29, hC29⟩ := print_drop_of (P := Tryd.prog) (Value.int .i32) 0 22 21 .i64 Tryd.underlying22 hi029 hsz29 (some ad375) c0 l0 (ji11) (of_decide_eq_true (by first | (with_reducible assumption) | assumption)) (of_decide_eq_true (by first | (with_reducible assumption) | assumption)) HC0.out
         have HR381 := Aside0.mk (Kd.C_of_reads (h1 := fun _ => rfl) (hA29 _ (Kd.reads_of_C HR0.out)))
         have HC381 := Aside0.mk hC29
         clear hA29 hC29 hi029 hsz29
         refine start_ (n := 13) (S := fun w' => True) (ds := []) #[false, false, false, false, false, false, false, false, false, false, false, false, false] (by kernel_rfl) rfl rfl trivial (fun hHeld => ?_); refine with_tabW tremalaw03_NormCuts.tab8 tremalaw03_NormCuts.bits8 (fun HT_ HW_ => ?_)
         generalize w26.drew = w27 at HB HR377 HR381 hHeld ⊢
         refine pure_ (i := 0) (N := some 28) (v := ?_) (a' := ?_) #[true, false, false, false, false, false, false, false, false, false, false, false, false] rfl rfl (any_of HT_.out (by kernel_rfl)) (fun _ _ _ h => h) (Or.inl ⟨by rfl, ?_⟩) ?_ ?_
         rotate_left
         ·intro w'
          go_simp
          with_reducible rfl
         rotate_left
         ·simp only [Act.put, List.setIfInBounds_toArray, List.set_cons_zero, List.set_cons_succ, i64_w, i32_w]
          rfl
         refine pure_ (i := 1) (N := some 29) (v := ?_) (a' := ?_) #[true, true, false, false, false, false, false, false, false, false, false, false, false] rfl rfl (any_of HT_.out (by kernel_rfl)) (fun _ _ _ h => h) (Or.inl ⟨by rfl, ?_⟩) ?_ ?_
         rotate_left
         ·intro w'
          go_simp
          with_reducible rfl
         rotate_left
         ·simp only [Act.put, List.setIfInBounds_toArray, List.set_cons_zero, List.set_cons_succ, i64_w, i32_w]
          rfl
         refine pure_ (i := 2) (N := some 30) (v := ?_) (a' := ?_) #[true, true, true, false, false, false, false, false, false, false, false, false, false] rfl rfl (any_of HT_.out (by kernel_rfl)) (fun _ _ _ h => h) (Or.inl ⟨by rfl, ?_⟩) ?_ ?_
         rotate_left
         ·intro w'
          go_simp
          with_reducible rfl
         rotate_left
         ·simp only [Act.put, List.setIfInBounds_toArray, List.set_cons_zero, List.set_cons_succ, i64_w, i32_w]
          rfl
         refine pure_ (i := 4) (N := some 32) (v := ?_) (a' := ?_) #[true, true, true, false, true, false, false, false, false, false, false, false, false] rfl rfl (any_of HT_.out (by kernel_rfl)) (fun _ _ _ h => h) (Or.inl ⟨by rfl, ?_⟩) ?_ ?_
         rotate_left
         ·intro w'
          go_simp
          with_reducible rfl
         rotate_left
         ·simp only [Act.put, List.setIfInBounds_toArray, List.set_cons_zero, List.set_cons_succ, i64_w, i32_w]
          rfl
         refine pure_ (i := 5) (N := some 33) (v := ?_) (a' := ?_) #[true, true, true, false, true, true, false, false, false, false, false, false, false] rfl rfl (any_of HT_.out (by kernel_rfl)) (fun _ _ _ h => h) (Or.inl ⟨by rfl, ?_⟩) ?_ ?_
         rotate_left
         ·intro w'
          go_simp
          with_reducible rfl
         rotate_left
         ·simp only [Act.put, List.setIfInBounds_toArray, List.set_cons_zero, List.set_cons_succ, i64_w, i32_w]
          rfl
         refine pure_ (i := 6) (N := some 34) (v := ?_) (a' := ?_) #[true, true, true, false, true, true, true, false, false, false, false, false, false] rfl rfl (any_of HT_.out (by kernel_rfl)) (fun _ _ _ h => h) (Or.inl ⟨by rfl, ?_⟩) ?_ ?_
         rotate_left
         ·intro w'
          go_simp
          with_reducible rfl
         rotate_left
         ·simp only [Act.put, List.setIfInBounds_toArray, List.set_cons_zero, List.set_cons_succ, i64_w, i32_w]
          rfl
         refine pure_ (i := 9) (N := some 37) (v := ?_) (a' := ?_) #[true, true, true, false, true, true, true, false, false, true, false, false, false] rfl rfl (any_of HT_.out (by kernel_rfl)) (fun _ _ _ h => h) (Or.inl ⟨by rfl, ?_⟩) ?_ ?_
         rotate_left
         ·intro w'
          go_simp
          with_reducible rfl
         rotate_left
         ·simp only [Act.put, List.setIfInBounds_toArray, List.set_cons_zero, List.set_cons_succ, i64_w, i32_w]
          rfl
         refine one_ (i := 3) (N := some 31) #[true, true, true, true, true, true, true, false, false, true, false, false, false] rfl rfl (one_of HT_.out (by kernel_rfl)) (by decide) (fun K hK => ?_)
         refine goes_ Tryd.func22 (by kernel_rfl) rfl #[.slice (some ad375) (l0.take ((ji11) : Int).toNat).length c0] (by rfl) rfl rfl (by (try simp only [List.map_toArray, List.map_cons, List.map_nil]); first | done | (rw [show (l0.take ((ji11) : Int).toNat).length = (ji11).toNat from (by rw [List.length_take]; have h_ : ((ji11) : Int) ≤ (l0.length : Int) := of_decide_eq_true (by first | (with_reducible assumption) | assumption); omega)] <;> rfl) | (simp only [hji11]; rfl) | rfl | (simp only [List.length_drop, List.length_take]; rfl)) ?_
         with_reducible refine (norm_Normal.calls k _ _ (l0.take ((ji11) : Int).toNat) t378 _ ?side1 ?side2 A18.out (by first | exact HG.out | exact Va.G.below HG.out (by repeat (first | (with_reducible first | exact HB.out | apply below_alloc | apply pw_below_drewN | apply below_drew1) | exact HB.out)))).mono ?_
         (case side1 => repeat (first | exact (Kd.C_below HR377.out HB.out) | (with_reducible refine Kd.C_alloc ?_ _) | (with_reducible refine Kd.C_drewN ?_ _) | (with_reducible refine Kd.C_drew ?_)))
         (case side2 => exact HC377.out)
         rintro e w30 ⟨v379, rfl, ho0, hb⟩
         refine ⟨_, rfl, ?_⟩
         have n0_ := Aside0.mk (Kd.R_lower ho0 (below_size (by repeat (first | (with_reducible first | exact HB.out | apply below_alloc | apply pw_below_drewN | apply below_drew1) | exact HB.out))))
         have n1_ := Aside0.mk (below_step (by repeat (first | (with_reducible first | exact HB.out | apply below_alloc | apply pw_below_drewN | apply below_drew1) | exact HB.out)) hb)
         clear HB
         have HO380 := n0_
         have HB := n1_
         clear n0_ n1_
         (try clear hb)
         (try clear hb2)
         (try clear hk)
         (try clear hi)
         (try clear ho0)
         refine hK.out _ _ trivial (fun hHeld => ?_)
         clear hK K
         refine norm_ (a' := ?_) ?_ ?_
         rotate_left
         ·show Act.put _ (some 31) _ = _
          simp only [Act.put, List.setIfInBounds_toArray, List.set_cons_zero, List.set_cons_succ, i64_w, i32_w]
          rfl
         refine one_ (i := 7) (N := some 35) #[true, true, true, true, true, true, true, true, false, true, false, false, false] rfl rfl (one_of HT_.out (by kernel_rfl)) (by decide) (fun K hK => ?_)
         refine goes_ Tryd.func22 (by kernel_rfl) rfl #[.slice A29 (l0.drop ((ji11) : Int).toNat).length (c0 - (ji11).toNat)] (by rfl) rfl rfl (by (try simp only [List.map_toArray, List.map_cons, List.map_nil]); first | done | (rw [show (l0.drop ((ji11) : Int).toNat).length = (l0.length - (ji11).toNat) from List.length_drop] <;> rfl) | (simp only [hji11]; rfl) | rfl | (simp only [List.length_drop, List.length_take]; rfl)) ?_
         with_reducible refine (norm_Normal.calls k _ _ (l0.drop ((ji11) : Int).toNat) t382 _ ?side1 ?side2 A21.out (by first | exact HG.out | exact Va.G.below HG.out (by repeat (first | (with_reducible first | exact HB.out | apply below_alloc | apply pw_below_drewN | apply below_drew1) | exact HB.out)))).mono ?_
         (case side1 => repeat (first | exact (Kd.C_below HR381.out HB.out) | (with_reducible refine Kd.C_alloc ?_ _) | (with_reducible refine Kd.C_drewN ?_ _) | (with_reducible refine Kd.C_drew ?_)))
         (case side2 => exact HC381.out)
         rintro e w31 ⟨v383, rfl, ho0, hb⟩
         refine ⟨_, rfl, ?_⟩
         have n0_ := Aside0.mk (Kd.R_elder' (by (with_reducible repeat (first | apply Kd.R_alloc | apply Kd.R_drewN | apply Kd.R_drew)); exact HO380.out) (Kd.R_base ho0) hb)
         have n1_ := Aside0.mk (Kd.R_lower (Kd.R_new' ho0 (Kd.R_lt (by (with_reducible repeat (first | apply Kd.R_alloc | apply Kd.R_drewN | apply Kd.R_drew)); exact HO380.out))) (below_size (by repeat (first | (with_reducible first | exact HB.out | apply below_alloc | apply pw_below_drewN | apply below_drew1) | exact HB.out))))
         have n2_ := Aside0.mk (below_step (by repeat (first | (with_reducible first | exact HB.out | apply below_alloc | apply pw_below_drewN | apply below_drew1) | exact HB.out)) hb)
         clear HO380
         clear HB
         have HO380 := n0_
         have HO384 := n1_
         have HB := n2_
         clear n0_ n1_ n2_
         (try clear hb)
         (try clear hb2)
         (try clear hk)
         (try clear hi)
         (try clear ho0)
         obtain ⟨Ao33, co33, eo33⟩ := Kd.R_slice HO384.out
         (first | subst eo33 | (injection eo33 with f1_ f2_ f3_; have f4_ := f1_.symm; have f5_ := f3_.symm; clear f1_ f2_ f3_; subst f4_; subst f5_))
         refine hK.out _ _ trivial (fun hHeld => ?_)
         clear hK K
         refine norm_ (a' := ?_) ?_ ?_
         rotate_left
         ·show Act.put _ (some 35) _ = _
          simp only [Act.put, List.setIfInBounds_toArray, List.set_cons_zero, List.set_cons_succ, i64_w, i32_w]
          rfl
         refine one_ (i := 8) (N := some 36) #[true, true, true, true, true, true, true, true, true, true, false, false, false] rfl rfl (one_of HT_.out (by kernel_rfl)) (by decide) (fun K hK => ?_)
         refine Kd.R_append_rows_step (Kd.int .i32) (w0 := w) w.heap.size (by rfl) (.tmp 31) (.tmp 35) 22 21 (.int .i32 0) 4 rfl Tryd.underlying22 info21 rfl (by decide) (by omega) v379 t378 t382 _ _ _ (fun k_ => some k_ ≠ (.slice Ao33 t382.length co33 : Value).ownBlock) (fun _ => False) rfl rfl ?aO ?aR (fun _ _ h => h) (fun _ h => h.elim) ?aF ?aB ?aS ?aL ?_
         (case aR => repeat (first | exact (Kd.R_reads' HO384.out).2.2 | (with_reducible refine Kd.C_alloc ?_ _) | (with_reducible refine Kd.C_drewN ?_ _) | (with_reducible refine Kd.C_drew ?_)))
         (case aB => exact (by repeat (first | (with_reducible first | exact HB.out | apply below_alloc | apply pw_below_drewN | apply below_drew1) | exact HB.out)))
         (case aF => exact (fun k_ hk => Kd.fresh' (Kd.R_lt (by (with_reducible repeat (first | apply Kd.R_alloc | apply Kd.R_drewN | apply Kd.R_drew)); exact HO384.out)) k_ hk))
         (case aO => exact (by (with_reducible repeat (first | apply Kd.R_alloc | apply Kd.R_drewN | apply Kd.R_drew)); exact Kd.R_mono HO380.out (fun _ hk => hk.2)))
         (case aS => exact (below_size (by repeat (first | (with_reducible first | exact HB.out | apply below_alloc | apply pw_below_drewN | apply below_drew1) | exact HB.out))))
         (case aL => have := LMc22.out; omega)
         intro v386 w32 ho hb hg hat
         rw [← Ny385.out] at ho
         have n0_ := Aside0.mk (Kd.R_after (ok := (fun _ => True)) (by (with_reducible repeat (first | apply Kd.R_alloc | apply Kd.R_drewN | apply Kd.R_drew)); exact HO384.out) hg hat)
         have n1_ := Aside0.mk (hb)
         have n2_ := Aside0.mk (ho)
         clear HO384
         clear HB
         clear HO380
         have HO384 := n0_
         have HB := n1_
         have HO387 := n2_
         clear n0_ n1_ n2_
         clear ho hb hg hat
         refine hK.out _ _ trivial (fun hHeld => ?_)
         clear hK K
         refine norm_ (a' := ?_) ?_ ?_
         rotate_left
         ·show Act.put _ (some 36) _ = _
          simp only [Act.put, List.setIfInBounds_toArray, List.set_cons_zero, List.set_cons_succ, i64_w, i32_w]
          rfl
         refine one_ (i := 10) (N := some 38) #[true, true, true, true, true, true, true, true, true, true, true, false, false] rfl rfl (one_of HT_.out (by kernel_rfl)) (by decide) (fun K hK => ?_)
         refine goes_ Tryd.func22 (by kernel_rfl) rfl #[.slice (some ad375) l0.length c0] (by rfl) rfl rfl (by (try simp only [List.map_toArray, List.map_cons, List.map_nil]); first | done | rfl | (simp only [List.length_drop, List.length_take]; rfl)) ?_
         with_reducible refine (norm_Normal.calls k _ _ l0 t388 _ ?side1 ?side2 A23.out (by first | exact HG.out | exact Va.G.below HG.out (by repeat (first | (with_reducible first | exact HB.out | apply below_alloc | apply pw_below_drewN | apply below_drew1) | exact HB.out)))).mono ?_
         (case side1 => repeat (first | exact (Kd.C_below HR0.out HB.out) | (with_reducible refine Kd.C_alloc ?_ _) | (with_reducible refine Kd.C_drewN ?_ _) | (with_reducible refine Kd.C_drew ?_)))
         (case side2 => exact HC0.out)
         rintro e w34 ⟨v389, rfl, ho0, hb⟩
         refine ⟨_, rfl, ?_⟩
         have n0_ := Aside0.mk (Kd.R_elder' (by (with_reducible repeat (first | apply Kd.R_alloc | apply Kd.R_drewN | apply Kd.R_drew)); exact HO384.out) (Kd.R_base ho0) hb)
         have n1_ := Aside0.mk (Kd.R_elder' (by (with_reducible repeat (first | apply Kd.R_alloc | apply Kd.R_drewN | apply Kd.R_drew)); exact HO387.out) (Kd.R_base ho0) hb)
         have n2_ := Aside0.mk (Kd.R_lower (Kd.R_new' (Kd.R_new' ho0 (Kd.R_lt (by (with_reducible repeat (first | apply Kd.R_alloc | apply Kd.R_drewN | apply Kd.R_drew)); exact HO384.out))) (Kd.R_lt (by (with_reducible repeat (first | apply Kd.R_alloc | apply Kd.R_drewN | apply Kd.R_drew)); exact HO387.out))) (below_size (by repeat (first | (with_reducible first | exact HB.out | apply below_alloc | apply pw_below_drewN | apply below_drew1) | exact HB.out))))
         have n3_ := Aside0.mk (below_step (by repeat (first | (with_reducible first | exact HB.out | apply below_alloc | apply pw_below_drewN | apply below_drew1) | exact HB.out)) hb)
         clear HO384
         clear HO387
         clear HB
         have HO384 := n0_
         have HO387 := n1_
         have HO390 := n2_
         have HB := n3_
         clear n0_ n1_ n2_ n3_
         (try clear hb)
         (try clear hb2)
         (try clear hk)
         (try clear hi)
         (try clear ho0)
         obtain ⟨Ao35, co35, eo35⟩ := Kd.R_slice HO387.out
         (first | subst eo35 | (injection eo35 with f1_ f2_ f3_; have f4_ := f1_.symm; have f5_ := f3_.symm; clear f1_ f2_ f3_; subst f4_; subst f5_))
         obtain ⟨Ao36, co36, eo36⟩ := Kd.R_slice HO390.out
         (first | subst eo36 | (injection eo36 with f1_ f2_ f3_; have f4_ := f1_.symm; have f5_ := f3_.symm; clear f1_ f2_ f3_; subst f4_; subst f5_))
         refine hK.out _ _ trivial (fun hHeld => ?_)
         clear hK K
         refine norm_ (a' := ?_) ?_ ?_
         rotate_left
         ·show Act.put _ (some 38) _ = _
          simp only [Act.put, List.setIfInBounds_toArray, List.set_cons_zero, List.set_cons_succ, i64_w, i32_w]
          rfl
         refine one_ (i := 11) (N := some 39) #[true, true, true, true, true, true, true, true, true, true, true, true, false] rfl rfl (one_of HT_.out (by kernel_rfl)) (by decide) (fun K hK => ?_)
         refine goes_ Tryd.func21 (by kernel_rfl) rfl #[.slice Ao35 y385.length co35, .slice Ao36 t388.length co36] (by rfl) rfl rfl (by (try simp only [List.map_toArray, List.map_cons, List.map_nil]); first | done | rfl | (simp only [List.length_drop, List.length_take]; rfl)) ?_
         with_reducible refine (tremaref01_SameRunes.calls k _ _ y385 _ _ t388 t391 _ ?side1 ?side2 ?side3 ?side4 A24.out).mono ?_
         (case side1 => repeat (first | exact (Kd.R_reads' HO387.out).2.2 | (with_reducible refine Kd.C_alloc ?_ _) | (with_reducible refine Kd.C_drewN ?_ _) | (with_reducible refine Kd.C_drew ?_)))
         (case side2 => exact (Kd.R_reads' HO387.out).2.1)
         (case side3 => repeat (first | exact (Kd.R_reads' HO390.out).2.2 | (with_reducible refine Kd.C_alloc ?_ _) | (with_reducible refine Kd.C_drewN ?_ _) | (with_reducible refine Kd.C_drew ?_)))
         (case side4 => exact (Kd.R_reads' HO390.out).2.1)
         rintro e w' ⟨rfl, ⟨nd, rfl⟩⟩
         refine ⟨_, rfl, ?_⟩
         refine hK.out _ _ trivial (fun hHeld => ?_)
         clear hK K
         refine norm_ (a' := ?_) ?_ ?_
         rotate_left
         ·show Act.put _ (some 39) _ = _
          simp only [Act.put, List.setIfInBounds_toArray, List.set_cons_zero, List.set_cons_succ, i64_w, i32_w]
          rfl
         refine pure_ (i := 12) (N := some 4) (v := ?_) (a' := ?_) #[true, true, true, true, true, true, true, true, true, true, true, true, true] rfl rfl (any_of HT_.out (by kernel_rfl)) (fun _ _ _ h => h) (Or.inl ⟨by rfl, ?_⟩) ?_ ?_
         rotate_left
         ·intro w'
          go_simp
          with_reducible rfl
         rotate_left
         ·simp only [Act.put, List.setIfInBounds_toArray, List.set_cons_zero, List.set_cons_succ, i64_w, i32_w]
          rfl
         refine done_ (done_of HT_.out (by kernel_rfl)) ?_
         try go_wp2
         go_ret
         exact ⟨by first | rfl | (simp [errW_none, errW_some] <;> rfl) | (simp only [← hji11]; first | rfl | (simp [errW_none, errW_some] <;> rfl)) | (simp [*, errW_none, errW_some] <;> rfl), by repeat (first | (with_reducible first | exact HB.out | apply below_alloc | apply pw_below_drewN | apply below_drew1) | exact HB.out)⟩
        ·rw [if_neg c22] at H
         exact absurd H (by simp)
       ·rw [if_neg c17] at H
        exact absurd H (by simp)
      ·replace c15 := Bool.eq_false_iff.mpr c15
       subst c15
       have H1 : (some true) = some r := by rw [if_neg (show ¬ (false = true) by decide)] at H; exact H
       clear H
       have H := H1
       clear H1
       obtain rfl := Option.some.inj H
       go_enter Tryd.func7, Tryd.ntmps7
       go_wp2_with (first | ((with_reducible refine gate_callee (f := 19) rfl ?_); refine goesL_ (some 6) rfl rfl Tryd.func19 (by kernel_rfl) rfl #[] rfl (by (try simp only [List.map_toArray, List.map_cons, List.map_nil]); first | done | rfl | (simp only [List.length_drop, List.length_take]; rfl)) ?_; (with_reducible refine (tremalaw03_fixed.calls  true _ A3.out (by first | exact HG.out | exact Va.G.below HG.out (by repeat (first | (with_reducible first | exact HB.out | apply below_alloc | apply pw_below_drewN | apply below_drew1) | exact HB.out)))).mono ?_); rintro e w37 ⟨rfl, hb⟩; refine ⟨_, rfl, ?_⟩; have n0_ := Aside0.mk (below_step (by repeat (first | (with_reducible first | exact HB.out | apply below_alloc | apply pw_below_drewN | apply below_drew1) | exact HB.out)) hb); clear HB; have HB := n0_; clear n0_; (try clear hb); (try clear hb2); (try clear hk); (try clear hi); have p375 : 0 ≤ ((ji11) : Int) := of_decide_eq_true (by first | (with_reducible assumption) | assumption); have q375 : (ji11) < (l0.length : Int) := of_decide_eq_true (by first | (with_reducible assumption) | assumption); obtain ⟨ad375, e375, hx375_0⟩ := Kd.at_int HR0.out (ji11) p375 q375; cases e375; replace hx375_0 := (HB.out.cell (World.block_lt_of_cell? w _ hx375_0)).trans hx375_0; replace p375 := eq_true p375; replace q375 := eq_true q375) | ((with_reducible refine gate_callee (f := 35) rfl ?_); refine goesL_ (some 26) rfl rfl Tryd.func35 (by kernel_rfl) rfl #[.int .i32 (rd l0 (ji11))] rfl (by (try simp only [List.map_toArray, List.map_cons, List.map_nil]); first | done | (simp only [hji11]; rfl) | rfl | (simp only [List.length_drop, List.length_take]; rfl)) ?_; (with_reducible refine (tremaref02_Opens.calls k (rd l0 (ji11)) false _ A14.out).mono ?_); rintro e w38 ⟨rfl, hb⟩; refine ⟨_, rfl, ?_⟩; have n0_ := Aside0.mk (below_step (by repeat (first | (with_reducible first | exact HB.out | apply below_alloc | apply pw_below_drewN | apply below_drew1) | exact HB.out)) hb); clear HB; have HB := n0_; clear n0_; (try clear hb); (try clear hb2); (try clear hk); (try clear hi)))
       go_ret
       exact ⟨by first | rfl | (simp [errW_none, errW_some] <;> rfl) | (simp only [← hji11]; first | rfl | (simp [errW_none, errW_some] <;> rfl)) | (simp [*, errW_none, errW_some] <;> rfl), by repeat (first | (with_reducible first | exact HB.out | apply below_alloc | apply pw_below_drewN | apply below_drew1) | exact HB.out)⟩
     ·rw [if_neg c13] at H
      exact absurd H (by simp)
    ·rw [if_neg c12] at H
     exact absurd H (by simp)
 ·replace c4 := Bool.eq_false_iff.mpr c4
  subst c4
  have H1 : (some false) = some r := by rw [if_neg (show ¬ (false = true) by decide)] at H; exact H
  clear H
  have H := H1
  clear H1
  obtain rfl := Option.some.inj H
  go_enter Tryd.func7, Tryd.ntmps7
  go_wp2_with (first | ((with_reducible refine gate_callee (f := 19) rfl ?_); refine goesL_ (some 6) rfl rfl Tryd.func19 (by kernel_rfl) rfl #[] rfl (by (try simp only [List.map_toArray, List.map_cons, List.map_nil]); first | done | rfl | (simp only [List.length_drop, List.length_take]; rfl)) ?_; (with_reducible refine (tremalaw03_fixed.calls  false _ A3.out (by first | exact HG.out | exact Va.G.below HG.out (by repeat (first | (with_reducible first | exact HB.out | apply below_alloc | apply pw_below_drewN | apply below_drew1) | exact HB.out)))).mono ?_); rintro e w39 ⟨rfl, hb⟩; refine ⟨_, rfl, ?_⟩; have n0_ := Aside0.mk (below_step (by repeat (first | (with_reducible first | exact HB.out | apply below_alloc | apply pw_below_drewN | apply below_drew1) | exact HB.out)) hb); clear HB; have HB := n0_; clear n0_; (try clear hb); (try clear hb2); (try clear hk); (try clear hi)))
  go_ret
  exact ⟨by first | rfl | (simp [errW_none, errW_some] <;> rfl) | (simp [*, errW_none, errW_some] <;> rfl), by repeat (first | (with_reducible first | exact HB.out | apply below_alloc | apply pw_below_drewN | apply below_drew1) | exact HB.out)⟩

end Go.Proofs.YtiggjbclbdikmaaDoor.X

/-
  The plain law NormCuts.
-/
namespace Go.Proofs.YtiggjbclbdikmaaDoor.Oq
set_option linter.unusedVariables false
set_option linter.unusedSimpArgs false
open Go.Proofs.YtiggjbclbdikmaaDoor.Vd (decU)
open Go.RowKit Go.Proofs.YtiggjbclbdikmaaDoorW.PrintWords Go.Proofs.YtiggjbclbdikmaaDoor.Ev0 Go.Proofs.YtiggjbclbdikmaaDoor.X Go.Proofs.YtiggjbclbdikmaaDoor.Va Go.Proofs.YtiggjbclbdikmaaDoor.Ve Go.Proofs.YtiggjbclbdikmaaDoor.Vp0 Go.Proofs.YtiggjbclbdikmaaDoor.Vr Go.Proofs.YtiggjbclbdikmaaDoor.Vu Go.Proofs.YtiggjbclbdikmaaDoor.Na Go.Proofs.YtiggjbclbdikmaaDoor.Oa Go.Proofs.YtiggjbclbdikmaaDoor.Ob

theorem nrm_cut (a b : List Int) (hb : b = [] ∨ ∃ z t, flat b = z :: t ∧ cls z = 0) : nrm (a ++ b) = nrm a ++ nrm b := by
  unfold nrm
  rw [flat_app]
  refine ordL_cut _ _ ?_
  rcases hb with rfl | ⟨z, t, h, hz⟩
  · exact .inl rfl
  · exact .inr ⟨z, t, h, hz⟩
theorem opens_cut (l : List Int) (n : Nat) (hn : n < l.length) (ho : opn l[n] = true) : nrm l = nrm (l.take n) ++ nrm (l.drop n) := by
  have h := nrm_cut (l.take n) (l.drop n) (.inr ?_)
  · rwa [List.take_append_drop] at h
  · rw [List.drop_eq_getElem_cons hn, flat_cons]
    have hne := Ve.decF_ne 4 l[n]
    unfold opn at ho
    have h0 : cls ((decU l[n]).getD 0 0) = 0 := by simpa using (Bool.and_eq_true_iff.1 ho).1
    have e : decU l[n] = Vd.decF 4 l[n] := rfl
    rw [← e] at hne
    match hd : decU l[n], hne with
    | z :: t, _ =>
      rw [hd] at h0
      exact ⟨z, t ++ flat (l.drop (n + 1)), by simp, by simpa using h0⟩
theorem NormCuts (l : List Int) (hwf : ∀ x ∈ l, (Lit.int .i32 x).wf = true) (hl : l.length ≤ 1048576) (c : Int) (hc : (Lit.int .i64 c).wf = true) : ∃ k, tremalaw03_NormCuts.f k l c = some true := by
  have h1 : ∀ x ∈ l, I32 x := fun x hx => wf32 (hwf x hx)
  have n1 := nrm_len3 l h1
  apply Ev.rounds (g := fun k => tremalaw03_NormCuts.f k l c)
  unfold tremalaw03_NormCuts.f tremalaw03_fixed.f
  simp only [Option.bind_some, if_true]
  by_cases h0 : l.length = 0
  · have hl0 : l = [] := List.eq_nil_of_length_eq_zero h0
    simp only [if_pos (show (l.length : Int) = 0 by omega)]
    refine Ev.bind (normEv l h1 (by omega)) ?_
    subst hl0
    exact Ev.now _
  · obtain ⟨n, hn, hnl⟩ : ∃ n : Nat, wrap64 (Int.tmod (IntKind.u64.wrap c) (IntKind.u64.wrap (l.length : Int))) = (n : Int) ∧ n < l.length := by
      have e1 : IntKind.u64.wrap (l.length : Int) = (l.length : Int) := by rw [IntKind.wrap_u64]; omega
      have e2 : 0 ≤ IntKind.u64.wrap c := by rw [IntKind.wrap_u64]; omega
      rw [e1, Int.tmod_eq_emod_of_nonneg e2]
      have e3 := Int.emod_nonneg (IntKind.u64.wrap c) (show (l.length : Int) ≠ 0 by omega)
      have e4 := Int.emod_lt_of_pos (IntKind.u64.wrap c) (show (0 : Int) < (l.length : Int) by omega)
      refine ⟨(IntKind.u64.wrap c % (l.length : Int)).toNat, ?_, by omega⟩
      unfold wrap64
      omega
    have e1 : IntKind.u64.wrap (l.length : Int) = (l.length : Int) := by rw [IntKind.wrap_u64]; omega
    simp only [if_neg (show ¬ (l.length : Int) = 0 by omega), if_neg (show ¬ IntKind.u64.wrap (l.length : Int) = 0 by rw [e1]; omega), hn, if_pos (show (0 : Int) ≤ (n : Int) by omega), if_pos (getLt hnl), rd_nat hnl, Int.toNat_natCast, if_pos (show (n : Int) ≤ (l.length : Int) by omega)]
    refine Ev.bind (refopn _ (h1 _ (List.getElem_mem hnl))) ?_
    by_cases ho : opn l[n] = true
    · have ha := nrm_len3 (l.take n) (fun x hx => h1 x (List.mem_of_mem_take hx))
      have hb := nrm_len3 (l.drop n) (fun x hx => h1 x (List.mem_of_mem_drop hx))
      rw [List.length_take] at ha
      rw [List.length_drop] at hb
      simp only [if_pos ho]
      refine Ev.bind (normEv (l.take n) (fun x hx => h1 x (List.mem_of_mem_take hx)) (by rw [List.length_take]; omega)) ?_
      refine Ev.bind (normEv (l.drop n) (fun x hx => h1 x (List.mem_of_mem_drop hx)) (by rw [List.length_drop]; omega)) ?_
      simp only [if_pos (show (nrm (l.take n)).length + (nrm (l.drop n)).length < 35184372088832 by omega)]
      refine Ev.bind (normEv l h1 (by omega)) ?_
      have hs := sameEv (nrm (l.take n) ++ nrm (l.drop n)) (nrm l) (by rw [List.length_append]; omega)
      rw [decide_eq_true (opens_cut l n hnl ho).symm] at hs
      refine Ev.bind hs ?_
      exact Ev.now _
    · simp only [if_neg ho]
      exact Ev.now _
end Go.Proofs.YtiggjbclbdikmaaDoor.Oq

/-
  NormCuts: for every input the law returns true and its arguments read as before (arguments of bulk at most 1048576).
-/
namespace Go.Proofs.YtiggjbclbdikmaaDoor.normCuts
open Go.ChangeShapes Go.WideShapes Go.ChangeAt Go.RowKit
open Go.ChangeMaps (open_string shut_string)
set_option linter.unusedVariables false
set_option linter.unusedSimpArgs false
theorem own : ownKnob Tryd.prog.godebug = none := by kernel_rfl
theorem laidOut : laidOutB Tryd.prog = true := by kernel_rfl
set_option maxRecDepth 100000 in
theorem contract (H : Type) (enc : TypeId × Value → H) (W : World) (base : Nat) (args : Array Value) (ds gs : List (DataW H)) (before : List MemPlace)
    (hval0 : ∀ (j : Nat) t v, Tryd.f7.params[j]? = some t → args[j]? = some v → Value.okWide Tryd.prog W .any base t v)
    (hW : DataW.Whole enc Tryd.prog Tryd.f7.params.toList Rows.normCutsSpec.vars false W args.toList ds gs before)
    (hL : laidMetH Tryd.prog Lv.laid W)
    (hk0 : Rows.uptoSmall H (ds ++ gs) = true) :
    Calls Tryd.prog 7 args W fun e W' => ∃ v, e = .returned v ∧ Rows.normCutsSpec.post enc Tryd.prog Tryd.f7 false true false false W args v W' := by
  have hkb : Rows.uptoBulkAll (ds ++ gs) ≤ 1048576 := of_decide_eq_true hk0
  have hval : ∀ (j : Nat) t v, Tryd.f7.params[j]? = some t → args[j]? = some v → Value.okWide Tryd.prog W .any base t v := hval0
  have hW' := hW
  obtain ⟨p, q, hA0, hV, rfl, hfz, hnd⟩ := hW
  have hA : DataW.TrodAll enc Tryd.prog W 0 (fun _ => true) true Tryd.f7.params.toList args.toList ds p := hA0
  rw [Tryd.params7] at hA hval
  obtain ⟨v0, vs0, d0, ds0, p0, q0, hargs, rfl, rfl, h0, r0⟩ := trodAll_cons hA
  obtain ⟨v1, vs1, d1, ds1, p1, q1, rfl, rfl, rfl, h1, r1⟩ := trodAll_cons r0
  obtain ⟨rfl, rfl, rfl⟩ := trodAll_nil r1
  obtain rfl : args = #[v0, v1] := by cases args; simp_all
  obtain ⟨rfl, rfl⟩ := trodVars_none hV
  have k0 := h0
  have lt0 : ∀ x ∈ p0, x.block < W.heap.size := by obtain ⟨m, hm⟩ := k0; exact DataW.trod_lt m _ _ _ hm
  obtain ⟨A0, xs0, c0, rfl, hc0, hC0, hw0, hb0, hz0⟩ := Od.arg_slice Tryd.underlying22 (by kernel_rfl) (Od.opens_int Tryd.underlying21) (hval 0 22 v0 rfl rfl) h0
  obtain ⟨a1, rfl, rfl, rfl, w1⟩ := open_int Tryd.underlying3 (hval 1 3 v1 rfl rfl) h1
  simp only [List.append_nil, Rows.uptoBulkAll] at hkb
  have hB0 := Nat.le_trans (Nat.le_trans (Nat.le_succ _) hb0) (show Rows.uptoBulk d0 ≤ 1048576 by omega)
  clear hA0 hval0 hk0
  obtain ⟨k, hk⟩ := Go.Proofs.YtiggjbclbdikmaaDoor.Oq.NormCuts xs0 hw0 (Nat.le_trans (Od.sumB_len (fun _ => Nat.le_refl _) _) hB0) a1 w1
  refine (Go.Proofs.YtiggjbclbdikmaaDoor.X.tremalaw03_NormCuts.calls k A0 c0 xs0 a1 true W hC0 hc0 hk (Lv.of_laid hL)).mono fun e W' ⟨he, bel⟩ => ?_
  subst he
  exact ⟨_, rfl, _, _, _, [], _, [], hW', trodAll_mk1 (shut_bool Tryd.underlying4 _), (trodAll_cons_mk (Below.trod laidOut (by kernel_rfl) (of_decide_eq_true (by kernel_rfl)) k0 bel lt0) (trodAll_cons_mk (shut_int Tryd.underlying3 w1) trodAll_mk0)), rfl, bel.frame _, fun h => by cases h⟩
set_option maxRecDepth 100000 in
theorem lifted (os : Os) (started : os.Started) (H : Type) (enc : TypeId × Value → H) (F : Stop.Interp) :
    ReturnsInHanded {} Tryd.checked os 7 .any ((Rows.OpenSpec.upto Rows.normCutsSpec).preRow enc Tryd.prog Tryd.f7 Rows.normCutsUptoRow.domain false Rows.normCutsUptoRow.laid) (((Rows.OpenSpec.upto Rows.normCutsSpec).at F).post enc Tryd.prog Tryd.f7 false true false false) := by
  refine returnsInHanded_of_row (C := Tryd.checked) (s := Rows.OpenSpec.upto Rows.normCutsSpec) own started (by kernel_rfl) Tryd.func7
    (witness_row_atRef (enc := enc) (C := Tryd.checked) false (World.doorLaid Tryd.prog 400 os) #[(.slice none 0 0), (.int .i64 0)] rfl (by kernel_rfl) (by kernel_rfl) (by kernel_rfl)
      (OpenSpec.preRow_of_cond (x := ([.nil, .lit (.int .i64 0)], [], [])) 8 (by kernel_rfl) (by kernel_rfl) (fun k hk => by cases hk; kernel_rfl) (by kernel_rfl) (Lv.door_met os _))) ?_
  intro W base args ds gs before hval hW _ hcond _ hL _ _
  exact contract H enc W base args ds gs before hval hW hL (hcond _ rfl)
theorem proved : Rows.NormCutsUptoSaid :=
  OpenClaim.holds_of_cond 7 Tryd.f7 rfl rfl rfl rfl rfl rfl rfl ⟨rfl, rfl, rfl, rfl, rfl⟩ rfl rfl rfl rfl rfl (by kernel_rfl) Tryd.func7 (by kernel_rfl)
    (of_decide_eq_true (by kernel_rfl)) (by unfold Func.isWrapper; first | (rw [if_pos (by decide +kernel)]; kernel_rfl) | (rw [if_neg (by decide +kernel)]; exact ⟨rfl, rfl⟩))
    (fun os started H enc _ F => by rw [OpenClaim.pre_eq_preRow]; exact lifted os started H enc F)
end Go.Proofs.YtiggjbclbdikmaaDoor.normCuts
namespace Go.Proofs.YtiggjbclbdikmaaDoor
theorem normCuts_holds : Rows.NormCutsUptoCardSaid :=
  Claim7.holds_tied_plain_at .later [] [.data, .data, .data] true (true, "fdf6c36acc2ff838e2b06de7c88b3a207dcf6760465f25f192835ebb1407940d") false
    normCuts.proved (fun _ h => by cases h) (by kernel_rfl) (fun _ h => by cases h) normCutsUpto_row_tie rfl ⟨rfl, rfl⟩ (by kernel_rfl) rfl
    (fun f fn hf hfn => by
      obtain rfl : f = 7 := Option.some.inj ((show Tryd.prog.funcNamed "trema/tremalaw03.NormCuts" = some 7 by kernel_rfl).symm.trans hf) |>.symm
      obtain rfl : fn = Tryd.f7 := (Option.some.inj (Tryd.func7.symm.trans hfn)).symm
      exact ⟨by kernel_rfl, fun j t ht => by
        rw [Tryd.params7] at ht
        have hm : t ∈ [22, 3] := by simpa using Array.mem_of_getElem? ht
        have hall : ([22, 3].all fun u => !Tryd.prog.wantsStandIn u) = true := by kernel_rfl
        exact (show Tryd.prog.wantsStandIn t = false by simpa using List.all_eq_true.1 hall t hm)⟩)
    (by kernel_rfl)
#print axioms normCuts_holds
end Go.Proofs.YtiggjbclbdikmaaDoor
