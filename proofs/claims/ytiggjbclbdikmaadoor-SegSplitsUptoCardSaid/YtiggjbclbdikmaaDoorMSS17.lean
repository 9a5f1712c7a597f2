/-
  Several texts of this claim in one: what its law's proof uses.
-/
import Derived.Test.YtiggjbclbdikmaaDoorMSS2
import Derived.Test.YtiggjbclbdikmaaDoorMSS15
import Derived.Test.YtiggjbclbdikmaaDoorMSS16
import Derived.Test.YtiggjbclbdikmaaDoorMSS14
import Derived.Test.YtiggjbclbdikmaaDoorRows
import Derived.Deep.Slices
import Derived.ChangeArms
import Derived.ChangeMaps
import Derived.SizedLaws
import Derived.OpenShut
import Derived.ProofKit
import Derived.LaidMore
import Derived.Stop.Joined
import Derived.Test.YtiggjbclbdikmaaDoorTie
import Derived.Test.YtiggjbclbdikmaaDoorCards
import Derived.WalkKit
import Derived.ShutString
import Derived.ChangeOld
import Derived.Below
import Derived.JoinedCond
import Derived.SevenTiedAt
import Derived.Deep.DeepHandedRow
import Derived.Deep.DeepWitnessRowRef
namespace Go.Proofs.YtiggjbclbdikmaaDoor.X
open Go.RowKit Go.Proofs.YtiggjbclbdikmaaDoorW.PrintWords Go.Proofs.YtiggjbclbdikmaaDoorW.PrintLast Go.Proofs.YtiggjbclbdikmaaDoorW.PrintMore
attribute [local go_sem] max2_int min2_int max_two min_two max_three min_three max_four min_four   
set_option linter.unusedVariables false
set_option linter.unusedSimpArgs false
def tremalaw04_SegSplits.f (k : Nat) (l0 : List Int) (a1 : Int) : Option (Bool) := (tremalaw04_fixed.f).bind fun t448 => (if t448 = true then ((seg_Split.f l0 a1).bind fun bt449 => ((tremaref04_Split.f k l0 a1).bind fun bt453 => (if bt449.2 = bt453.2 then ((tremaref04_Same.f k bt449.1 bt453.1).bind fun t457 => (if t457 = true then ((seg_Texts.f l0).bind fun t458 => ((tremaref04_All.f k l0).bind fun t461 => ((tremaref04_Texts.f k t461).bind fun t464 => ((tremaref01_SameTexts.f k t458 t464).bind fun t467 => (some t467))))) else (some false))) else (some false)))) else (some false))
theorem tremalaw04_SegSplits.mono : ∀ a0 a1 k, LeO (tremalaw04_SegSplits.f k a0 a1) (tremalaw04_SegSplits.f (k + 1) a0 a1) := by
 intro a0 a1 k
 unfold tremalaw04_SegSplits.f
 repeat' first
   | (with_reducible exact tremaref01_SameTexts.mono _ _ _)
   | (with_reducible exact tremaref04_All.mono _ _)
   | (with_reducible exact tremaref04_Same.mono _ _ _)
   | (with_reducible exact tremaref04_Split.mono _ _ _)
   | (with_reducible exact tremaref04_Texts.mono _ _)
   | (with_reducible exact LeO.refl _)
   | (with_reducible exact LeO.none _)
   | (with_reducible refine LeO.ite ?_ ?_)
   | (with_reducible refine LeO.bind ?_ (fun _ => ?_))
   | exact tremaref01_SameTexts.mono _ _ _
   | exact tremaref04_All.mono _ _
   | exact tremaref04_Same.mono _ _ _
   | exact tremaref04_Split.mono _ _ _
   | exact tremaref04_Texts.mono _ _
   | exact LeO.none _
   | refine LeO.ite ?_ ?_
   | refine LeO.bind ?_ (fun _ => ?_)
set_option maxHeartbeats 8000000 in
set_option maxRecDepth 100000 in
theorem tremalaw04_SegSplits.calls (k : Nat) (A0 : Option Addr) (c0 : Nat) (l0 : List Int) (a1 : Int) (r : Bool) (w : World) (hr0 : Kd.C (Kd.int .u8) w A0 l0.length l0) (hc0 : l0.length ≤ c0) (h : tremalaw04_SegSplits.f k l0 a1 = some r) (hG0 : Va.G w) :
  Calls Tryd.prog 12 #[.slice A0 l0.length c0, .int .i64 a1] w fun e w' => e = .returned (.bool r) ∧ Below w.heap.size w w' := by
 have HG := Aside0.mk hG0
 clear hG0
 have HR0 := Aside0.mk hr0
 have HC0 := Aside0.mk hc0
 clear hr0 hc0
 have HB := Aside0.mk (Below.refl w.heap.size w)
 have H : ((tremalaw04_fixed.f).bind fun t448 => (if t448 = true then ((seg_Split.f l0 a1).bind fun bt449 => ((tremaref04_Split.f k l0 a1).bind fun bt453 => (if bt449.2 = bt453.2 then ((tremaref04_Same.f k bt449.1 bt453.1).bind fun t457 => (if t457 = true then ((seg_Texts.f l0).bind fun t458 => ((tremaref04_All.f k l0).bind fun t461 => ((tremaref04_Texts.f k t461).bind fun t464 => ((tremaref01_SameTexts.f k t458 t464).bind fun t467 => (some t467))))) else (some false))) else (some false)))) else (some false))) = some r := h
 clear h
 replace H := Option.bind_eq_some_iff.mp H
 obtain ⟨t448, A30, H⟩ := H
 replace H : (if t448 = true then ((seg_Split.f l0 a1).bind fun bt449 => ((tremaref04_Split.f k l0 a1).bind fun bt453 => (if bt449.2 = bt453.2 then ((tremaref04_Same.f k bt449.1 bt453.1).bind fun t457 => (if t457 = true then ((seg_Texts.f l0).bind fun t458 => ((tremaref04_All.f k l0).bind fun t461 => ((tremaref04_Texts.f k t461).bind fun t464 => ((tremaref01_SameTexts.f k t458 t464).bind fun t467 => (some t467))))) else (some false))) else (some false)))) else (some false)) = some r := H
 have A3 := Aside0.mk A30
 clear A30
 by_cases c4 : t448 = true
 ·subst c4
  have H1 : ((seg_Split.f l0 a1).bind fun bt449 => ((tremaref04_Split.f k l0 a1).bind fun bt453 => (if bt449.2 = bt453.2 then ((tremaref04_Same.f k bt449.1 bt453.1).bind fun t457 => (if t457 = true then ((seg_Texts.f l0).bind fun t458 => ((tremaref04_All.f k l0).bind fun t461 => ((tremaref04_Texts.f k t461).bind fun t464 => ((tremaref01_SameTexts.f k t458 t464).bind fun t467 => (some t467))))) else (some false))) else (some false)))) = some r := by rw [if_pos rfl] at H; exact H
  clear H
  have H := H1
  clear H1
  replace H := Option.bind_eq_some_iff.mp H
  obtain ⟨⟨t449, t450⟩, A50, H⟩ := H
  replace H : ((tremaref04_Split.f k l0 a1).bind fun bt453 => (if t450 = bt453.2 then ((tremaref04_Same.f k t449 bt453.1).bind fun t457 => (if t457 = true then ((seg_Texts.f l0).bind fun t458 => ((tremaref04_All.f k l0).bind fun t461 => ((tremaref04_Texts.f k t461).bind fun t464 => ((tremaref01_SameTexts.f k t458 t464).bind fun t467 => (some t467))))) else (some false))) else (some false))) = some r := H
  have A5 := Aside0.mk A50
  clear A50
  replace H := Option.bind_eq_some_iff.mp H
  obtain ⟨⟨t453, t454⟩, A60, H⟩ := H
  replace H : (if t450 = t454 then ((tremaref04_Same.f k t449 t453).bind fun t457 => (if t457 = true then ((seg_Texts.f l0).bind fun t458 => ((tremaref04_All.f k l0).bind fun t461 => ((tremaref04_Texts.f k t461).bind fun t464 => ((tremaref01_SameTexts.f k t458 t464).bind fun t467 => (some t467))))) else (some false))) else (some false)) = some r := H
  have A6 := Aside0.mk A60
  clear A60
  by_cases c7 : t450 = t454
  ·rw [if_pos c7] at H
   have c7b0 : (t450 == t454) = true := beq_iff_eq.mpr c7
   have c7b1 : (t450 != t454) = false := bne_eq_false_iff_eq.mpr c7
   clear c7
   replace H := Option.bind_eq_some_iff.mp H
   obtain ⟨t457, A80, H⟩ := H
   replace H : (if t457 = true then ((seg_Texts.f l0).bind fun t458 => ((tremaref04_All.f k l0).bind fun t461 => ((tremaref04_Texts.f k t461).bind fun t464 => ((tremaref01_SameTexts.f k t458 t464).bind fun t467 => (some t467))))) else (some false)) = some r := H
   have A8 := Aside0.mk A80
   clear A80
   by_cases c9 : t457 = true
   ·subst c9
    have H1 : ((seg_Texts.f l0).bind fun t458 => ((tremaref04_All.f k l0).bind fun t461 => ((tremaref04_Texts.f k t461).bind fun t464 => ((tremaref01_SameTexts.f k t458 t464).bind fun t467 => (some t467))))) = some r := by rw [if_pos rfl] at H; exact H
    clear H
    have H := H1
    clear H1
    replace H := Option.bind_eq_some_iff.mp H
    obtain ⟨t458, A100, H⟩ := H
    replace H : ((tremaref04_All.f k l0).bind fun t461 => ((tremaref04_Texts.f k t461).bind fun t464 => ((tremaref01_SameTexts.f k t458 t464).bind fun t467 => (some t467)))) = some r := H
    have A10 := Aside0.mk A100
    clear A100
    replace H := Option.bind_eq_some_iff.mp H
    obtain ⟨t461, A110, H⟩ := H
    replace H : ((tremaref04_Texts.f k t461).bind fun t464 => ((tremaref01_SameTexts.f k t458 t464).bind fun t467 => (some t467))) = some r := H
    have A11 := Aside0.mk A110
    clear A110
    replace H := Option.bind_eq_some_iff.mp H
    obtain ⟨t464, A120, H⟩ := H
    replace H : ((tremaref01_SameTexts.f k t458 t464).bind fun t467 => (some t467)) = some r := H
    have A12 := Aside0.mk A120
    clear A120
    replace H := Option.bind_eq_some_iff.mp H
    obtain ⟨t467, A130, H⟩ := H
    replace H : (some t467) = some r := H
    have A13 := Aside0.mk A130
    clear A130
    obtain rfl := Option.some.inj H
    go_enter Tryd.func12, Tryd.ntmps12
    go_wp2_with (first | ((with_reducible refine gate_callee (f := 38) rfl ?_); refine goesL_ (some 9) rfl rfl Tryd.func38 (by kernel_rfl) rfl #[] rfl (by (try simp only [List.map_toArray, List.map_cons, List.map_nil]); first | done | rfl | (simp only [List.length_drop, List.length_take]; rfl)) ?_; (with_reducible refine (tremalaw04_fixed.calls  true _ A3.out (by first | exact HG.out | exact Va.G.below HG.out (by repeat (first | (with_reducible first | exact HB.out | apply below_alloc | apply pw_below_drewN | apply below_drew1) | exact HB.out)))).mono ?_); rintro e w14 ⟨rfl, hb⟩; refine ⟨_, rfl, ?_⟩; have n0_ := Aside0.mk (below_step (by repeat (first | (with_reducible first | exact HB.out | apply below_alloc | apply pw_below_drewN | apply below_drew1) | exact HB.out)) hb); clear HB; have HB := n0_; clear n0_; (try clear hb); (try clear hb2); (try clear hk); (try clear hi)) | ((with_reducible refine gate_callee (f := 39) rfl ?_); refine goesL_ (some 14) rfl rfl Tryd.func39 (by kernel_rfl) rfl #[.slice A0 l0.length c0, .int .i64 a1] rfl (by (try simp only [List.map_toArray, List.map_cons, List.map_nil]); first | done | rfl | (simp only [List.length_drop, List.length_take]; rfl)) ?_; (with_reducible refine (seg_Split.calls _ _ l0 a1 t449 t450 _ ?side1 ?side2 A5.out (by first | exact HG.out | exact Va.G.below HG.out (by repeat (first | (with_reducible first | exact HB.out | apply below_alloc | apply pw_below_drewN | apply below_drew1) | exact HB.out)))).mono ?_); (case side1 => repeat (first | exact (Kd.C_below HR0.out HB.out) | (with_reducible refine Kd.C_alloc ?_ _) | (with_reducible refine Kd.C_drewN ?_ _) | (with_reducible refine Kd.C_drew ?_))); (case side2 => exact HC0.out); rintro e w15 ⟨v451, rfl, ho0, hb⟩; refine ⟨_, rfl, ?_⟩; have n0_ := Aside0.mk (Kd.R_lower ho0 (below_size (by repeat (first | (with_reducible first | exact HB.out | apply below_alloc | apply pw_below_drewN | apply below_drew1) | exact HB.out)))); have n1_ := Aside0.mk (below_step (by repeat (first | (with_reducible first | exact HB.out | apply below_alloc | apply pw_below_drewN | apply below_drew1) | exact HB.out)) hb); clear HB; have HO452 := n0_; have HB := n1_; clear n0_ n1_; (try clear hb); (try clear hb2); (try clear hk); (try clear hi); (try clear ho0)) | ((with_reducible refine gate_callee (f := 40) rfl ?_); refine goesL_ (some 20) rfl rfl Tryd.func40 (by kernel_rfl) rfl #[.slice A0 l0.length c0, .int .i64 a1] rfl (by (try simp only [List.map_toArray, List.map_cons, List.map_nil]); first | done | rfl | (simp only [List.length_drop, List.length_take]; rfl)) ?_; (with_reducible refine (tremaref04_Split.calls k _ _ l0 a1 t453 t454 _ ?side1 ?side2 A6.out).mono ?_); (case side1 => repeat (first | exact (Kd.C_below HR0.out HB.out) | (with_reducible refine Kd.C_alloc ?_ _) | (with_reducible refine Kd.C_drewN ?_ _) | (with_reducible refine Kd.C_drew ?_))); (case side2 => exact HC0.out); rintro e w16 ⟨v455, rfl, ho0, hb⟩; refine ⟨_, rfl, ?_⟩; have n0_ := Aside0.mk (Kd.R_elder' (by (with_reducible repeat (first | apply Kd.R_alloc | apply Kd.R_drewN | apply Kd.R_drew)); exact HO452.out) (Kd.R_base ho0) hb); have n1_ := Aside0.mk (Kd.R_lower (Kd.R_new' ho0 (Kd.R_lt (by (with_reducible repeat (first | apply Kd.R_alloc | apply Kd.R_drewN | apply Kd.R_drew)); exact HO452.out))) (below_size (by repeat (first | (with_reducible first | exact HB.out | apply below_alloc | apply pw_below_drewN | apply below_drew1) | exact HB.out)))); have n2_ := Aside0.mk (below_step (by repeat (first | (with_reducible first | exact HB.out | apply below_alloc | apply pw_below_drewN | apply below_drew1) | exact HB.out)) hb); clear HO452; clear HB; have HO452 := n0_; have HO456 := n1_; have HB := n2_; clear n0_ n1_ n2_; (try clear hb); (try clear hb2); (try clear hk); (try clear hi); (try clear ho0); obtain ⟨Ao17, co17, eo17⟩ := Kd.R_slice HO452.out; subst eo17; obtain ⟨Ao18, co18, eo18⟩ := Kd.R_slice HO456.out; subst eo18) | (go_at_call 41; (with_reducible refine (tremaref04_Same.calls k _ _ t449 _ _ t453 true _ ?side1 ?side2 ?side3 ?side4 A8.out).mono ?_); (case side1 => repeat (first | exact (Kd.R_reads' HO452.out).2.2 | (with_reducible refine Kd.C_alloc ?_ _) | (with_reducible refine Kd.C_drewN ?_ _) | (with_reducible refine Kd.C_drew ?_))); (case side2 => exact (Kd.R_reads' HO452.out).2.1); (case side3 => repeat (first | exact (Kd.R_reads' HO456.out).2.2 | (with_reducible refine Kd.C_alloc ?_ _) | (with_reducible refine Kd.C_drewN ?_ _) | (with_reducible refine Kd.C_drew ?_))); (case side4 => exact (Kd.R_reads' HO456.out).2.1); rintro e w' ⟨rfl, ⟨nd, rfl⟩⟩) | (go_at_call 43; (with_reducible refine (seg_Texts.calls _ _ l0 t458 _ ?side1 ?side2 A10.out (by first | exact HG.out | exact Va.G.below HG.out (by repeat (first | (with_reducible first | exact HB.out | apply below_alloc | apply pw_below_drewN | apply below_drew1) | exact HB.out)))).mono ?_); (case side1 => repeat (first | exact (Kd.C_below HR0.out (by repeat (first | (with_reducible first | exact HB.out | apply below_alloc | apply pw_below_drewN | apply below_drew1) | exact HB.out))) | (with_reducible refine Kd.C_alloc ?_ _) | (with_reducible refine Kd.C_drewN ?_ _) | (with_reducible refine Kd.C_drew ?_))); (case side2 => exact HC0.out); rintro e w19 ⟨v459, rfl, ho0, hb⟩; have n0_ := Aside0.mk (Kd.R_below (by (with_reducible repeat (first | apply Kd.R_alloc | apply Kd.R_drewN | apply Kd.R_drew)); exact HO452.out) hb); have n1_ := Aside0.mk (Kd.R_below (by (with_reducible repeat (first | apply Kd.R_alloc | apply Kd.R_drewN | apply Kd.R_drew)); exact HO456.out) hb); have n2_ := Aside0.mk (Kd.R_lower ho0 (below_size (by repeat (first | (with_reducible first | exact HB.out | apply below_alloc | apply pw_below_drewN | apply below_drew1) | exact HB.out)))); have n3_ := Aside0.mk (below_step (by repeat (first | (with_reducible first | exact HB.out | apply below_alloc | apply pw_below_drewN | apply below_drew1) | exact HB.out)) hb); clear HO452; clear HO456; clear HB; have HO452 := n0_; have HO456 := n1_; have HO460 := n2_; have HB := n3_; clear n0_ n1_ n2_ n3_; (try clear hb); (try clear hb2); (try clear hk); (try clear hi); (try clear ho0)) | (go_at_call 45; (with_reducible refine (tremaref04_All.calls k _ _ l0 t461 _ ?side1 ?side2 A11.out).mono ?_); (case side1 => repeat (first | exact (Kd.C_below HR0.out HB.out) | (with_reducible refine Kd.C_alloc ?_ _) | (with_reducible refine Kd.C_drewN ?_ _) | (with_reducible refine Kd.C_drew ?_))); (case side2 => exact HC0.out); rintro e w20 ⟨v462, rfl, ho0, hb⟩; have n0_ := Aside0.mk (Kd.R_elder' (by (with_reducible repeat (first | apply Kd.R_alloc | apply Kd.R_drewN | apply Kd.R_drew)); exact HO452.out) (Kd.R_base ho0) hb); have n1_ := Aside0.mk (Kd.R_elder' (by (with_reducible repeat (first | apply Kd.R_alloc | apply Kd.R_drewN | apply Kd.R_drew)); exact HO456.out) (Kd.R_base ho0) hb); have n2_ := Aside0.mk (Kd.R_below (by (with_reducible repeat (first | apply Kd.R_alloc | apply Kd.R_drewN | apply Kd.R_drew)); exact HO460.out) hb); have n3_ := Aside0.mk (Kd.R_lower (Kd.R_new' (Kd.R_new' ho0 (Kd.R_lt (by (with_reducible repeat (first | apply Kd.R_alloc | apply Kd.R_drewN | apply Kd.R_drew)); exact HO452.out))) (Kd.R_lt (by (with_reducible repeat (first | apply Kd.R_alloc | apply Kd.R_drewN | apply Kd.R_drew)); exact HO456.out))) (below_size (by repeat (first | (with_reducible first | exact HB.out | apply below_alloc | apply pw_below_drewN | apply below_drew1) | exact HB.out)))); have n4_ := Aside0.mk (below_step (by repeat (first | (with_reducible first | exact HB.out | apply below_alloc | apply pw_below_drewN | apply below_drew1) | exact HB.out)) hb); clear HO452; clear HO456; clear HO460; clear HB; have HO452 := n0_; have HO456 := n1_; have HO460 := n2_; have HO463 := n3_; have HB := n4_; clear n0_ n1_ n2_ n3_ n4_; (try clear hb); (try clear hb2); (try clear hk); (try clear hi); (try clear ho0); obtain ⟨Ao21, co21, eo21⟩ := Kd.R_slice HO463.out; subst eo21) | (go_at_call 44; (with_reducible refine (tremaref04_Texts.calls k _ _ t461 t464 _ ?side1 ?side2 A12.out).mono ?_); (case side1 => repeat (first | exact (Kd.R_reads' HO463.out).2.2 | (with_reducible refine Kd.C_alloc ?_ _) | (with_reducible refine Kd.C_drewN ?_ _) | (with_reducible refine Kd.C_drew ?_))); (case side2 => exact (Kd.R_reads' HO463.out).2.1); rintro e w22 ⟨v465, rfl, ho0, hb⟩; have n0_ := Aside0.mk (Kd.R_below (by (with_reducible repeat (first | apply Kd.R_alloc | apply Kd.R_drewN | apply Kd.R_drew)); exact HO452.out) hb); have n1_ := Aside0.mk (Kd.R_below (by (with_reducible repeat (first | apply Kd.R_alloc | apply Kd.R_drewN | apply Kd.R_drew)); exact HO456.out) hb); have n2_ := Aside0.mk (Kd.R_elder' (by (with_reducible repeat (first | apply Kd.R_alloc | apply Kd.R_drewN | apply Kd.R_drew)); exact HO460.out) (Kd.R_base ho0) hb); have n3_ := Aside0.mk (Kd.R_below (by (with_reducible repeat (first | apply Kd.R_alloc | apply Kd.R_drewN | apply Kd.R_drew)); exact HO463.out) hb); have n4_ := Aside0.mk (Kd.R_lower (Kd.R_new' ho0 (Kd.R_lt (by (with_reducible repeat (first | apply Kd.R_alloc | apply Kd.R_drewN | apply Kd.R_drew)); exact HO460.out))) (below_size (by repeat (first | (with_reducible first | exact HB.out | apply below_alloc | apply pw_below_drewN | apply below_drew1) | exact HB.out)))); have n5_ := Aside0.mk (below_step (by repeat (first | (with_reducible first | exact HB.out | apply below_alloc | apply pw_below_drewN | apply below_drew1) | exact HB.out)) hb); clear HO452; clear HO456; clear HO460; clear HO463; clear HB; have HO452 := n0_; have HO456 := n1_; have HO460 := n2_; have HO463 := n3_; have HO466 := n4_; have HB := n5_; clear n0_ n1_ n2_ n3_ n4_ n5_; (try clear hb); (try clear hb2); (try clear hk); (try clear hi); (try clear ho0); obtain ⟨Ao23, co23, eo23⟩ := Kd.R_slice HO460.out; subst eo23; obtain ⟨Ao24, co24, eo24⟩ := Kd.R_slice HO466.out; subst eo24) | (go_at_call 42; (with_reducible refine (tremaref01_SameTexts.calls k _ _ t458 _ _ t464 t467 _ ?side1 ?side2 ?side3 ?side4 A13.out).mono ?_); (case side1 => repeat (first | exact (Kd.R_reads' HO460.out).2.2 | (with_reducible refine Kd.C_alloc ?_ _) | (with_reducible refine Kd.C_drewN ?_ _) | (with_reducible refine Kd.C_drew ?_))); (case side2 => exact (Kd.R_reads' HO460.out).2.1); (case side3 => repeat (first | exact (Kd.R_reads' HO466.out).2.2 | (with_reducible refine Kd.C_alloc ?_ _) | (with_reducible refine Kd.C_drewN ?_ _) | (with_reducible refine Kd.C_drew ?_))); (case side4 => exact (Kd.R_reads' HO466.out).2.1); rintro e w' ⟨rfl, ⟨nd, rfl⟩⟩))
    go_ret
    exact ⟨by first | rfl | (simp [errW_none, errW_some] <;> rfl) | (simp [*, errW_none, errW_some] <;> rfl), by repeat (first | (with_reducible first | exact HB.out | apply below_alloc | apply pw_below_drewN | apply below_drew1) | exact HB.out)⟩
   ·replace c9 := Bool.eq_false_iff.mpr c9
    subst c9
    have H1 : (some false) = some r := by rw [if_neg (show ¬ (false = true) by decide)] at H; exact H
    clear H
    have H := H1
    clear H1
    obtain rfl := Option.some.inj H
    go_enter Tryd.func12, Tryd.ntmps12
    go_wp2_with (first | ((with_reducible refine gate_callee (f := 38) rfl ?_); refine goesL_ (some 9) rfl rfl Tryd.func38 (by kernel_rfl) rfl #[] rfl (by (try simp only [List.map_toArray, List.map_cons, List.map_nil]); first | done | rfl | (simp only [List.length_drop, List.length_take]; rfl)) ?_; (with_reducible refine (tremalaw04_fixed.calls  true _ A3.out (by first | exact HG.out | exact Va.G.below HG.out (by repeat (first | (with_reducible first | exact HB.out | apply below_alloc | apply pw_below_drewN | apply below_drew1) | exact HB.out)))).mono ?_); rintro e w25 ⟨rfl, hb⟩; refine ⟨_, rfl, ?_⟩; have n0_ := Aside0.mk (below_step (by repeat (first | (with_reducible first | exact HB.out | apply below_alloc | apply pw_below_drewN | apply below_drew1) | exact HB.out)) hb); clear HB; have HB := n0_; clear n0_; (try clear hb); (try clear hb2); (try clear hk); (try clear hi)) | ((with_reducible refine gate_callee (f := 39) rfl ?_); refine goesL_ (some 14) rfl rfl Tryd.func39 (by kernel_rfl) rfl #[.slice A0 l0.length c0, .int .i64 a1] rfl (by (try simp only [List.map_toArray, List.map_cons, List.map_nil]); first | done | rfl | (simp only [List.length_drop, List.length_take]; rfl)) ?_; (with_reducible refine (seg_Split.calls _ _ l0 a1 t449 t450 _ ?side1 ?side2 A5.out (by first | exact HG.out | exact Va.G.below HG.out (by repeat (first | (with_reducible first | exact HB.out | apply below_alloc | apply pw_below_drewN | apply below_drew1) | exact HB.out)))).mono ?_); (case side1 => repeat (first | exact (Kd.C_below HR0.out HB.out) | (with_reducible refine Kd.C_alloc ?_ _) | (with_reducible refine Kd.C_drewN ?_ _) | (with_reducible refine Kd.C_drew ?_))); (case side2 => exact HC0.out); rintro e w26 ⟨v451, rfl, ho0, hb⟩; refine ⟨_, rfl, ?_⟩; have n0_ := Aside0.mk (Kd.R_lower ho0 (below_size (by repeat (first | (with_reducible first | exact HB.out | apply below_alloc | apply pw_below_drewN | apply below_drew1) | exact HB.out)))); have n1_ := Aside0.mk (below_step (by repeat (first | (with_reducible first | exact HB.out | apply below_alloc | apply pw_below_drewN | apply below_drew1) | exact HB.out)) hb); clear HB; have HO452 := n0_; have HB := n1_; clear n0_ n1_; (try clear hb); (try clear hb2); (try clear hk); (try clear hi); (try clear ho0)) | ((with_reducible refine gate_callee (f := 40) rfl ?_); refine goesL_ (some 20) rfl rfl Tryd.func40 (by kernel_rfl) rfl #[.slice A0 l0.length c0, .int .i64 a1] rfl (by (try simp only [List.map_toArray, List.map_cons, List.map_nil]); first | done | rfl | (simp only [List.length_drop, List.length_take]; rfl)) ?_; (with_reducible refine (tremaref04_Split.calls k _ _ l0 a1 t453 t454 _ ?side1 ?side2 A6.out).mono ?_); (case side1 => repeat (first | exact (Kd.C_below HR0.out HB.out) | (with_reducible refine Kd.C_alloc ?_ _) | (with_reducible refine Kd.C_drewN ?_ _) | (with_reducible refine Kd.C_drew ?_))); (case side2 => exact HC0.out); rintro e w27 ⟨v455, rfl, ho0, hb⟩; refine ⟨_, rfl, ?_⟩; have n0_ := Aside0.mk (Kd.R_elder' (by (with_reducible repeat (first | apply Kd.R_alloc | apply Kd.R_drewN | apply Kd.R_drew)); exact HO452.out) (Kd.R_base ho0) hb); have n1_ := Aside0.mk (Kd.R_lower (Kd.R_new' ho0 (Kd.R_lt (by (with_reducible repeat (first | apply Kd.R_alloc | apply Kd.R_drewN | apply Kd.R_drew)); exact HO452.out))) (below_size (by repeat (first | (with_reducible first | exact HB.out | apply below_alloc | apply pw_below_drewN | apply below_drew1) | exact HB.out)))); have n2_ := Aside0.mk (below_step (by repeat (first | (with_reducible first | exact HB.out | apply below_alloc | apply pw_below_drewN | apply below_drew1) | exact HB.out)) hb); clear HO452; clear HB; have HO452 := n0_; have HO456 := n1_; have HB := n2_; clear n0_ n1_ n2_; (try clear hb); (try clear hb2); (try clear hk); (try clear hi); (try clear ho0); obtain ⟨Ao28, co28, eo28⟩ := Kd.R_slice HO452.out; subst eo28; obtain ⟨Ao29, co29, eo29⟩ := Kd.R_slice HO456.out; subst eo29) | (go_at_call 41; (with_reducible refine (tremaref04_Same.calls k _ _ t449 _ _ t453 false _ ?side1 ?side2 ?side3 ?side4 A8.out).mono ?_); (case side1 => repeat (first | exact (Kd.R_reads' HO452.out).2.2 | (with_reducible refine Kd.C_alloc ?_ _) | (with_reducible refine Kd.C_drewN ?_ _) | (with_reducible refine Kd.C_drew ?_))); (case side2 => exact (Kd.R_reads' HO452.out).2.1); (case side3 => repeat (first | exact (Kd.R_reads' HO456.out).2.2 | (with_reducible refine Kd.C_alloc ?_ _) | (with_reducible refine Kd.C_drewN ?_ _) | (with_reducible refine Kd.C_drew ?_))); (case side4 => exact (Kd.R_reads' HO456.out).2.1); rintro e w' ⟨rfl, ⟨nd, rfl⟩⟩))
    go_ret
    exact ⟨by first | rfl | (simp [errW_none, errW_some] <;> rfl) | (simp [*, errW_none, errW_some] <;> rfl), by repeat (first | (with_reducible first | exact HB.out | apply below_alloc | apply pw_below_drewN | apply below_drew1) | exact HB.out)⟩
  ·rw [if_neg c7] at H
   have c7b0 : (t450 == t454) = false := beq_eq_false_iff_ne.mpr c7
   have c7b1 : (t450 != t454) = true := bne_iff_ne.mpr c7
   obtain rfl := Option.some.inj H
   go_enter Tryd.func12, Tryd.ntmps12
   go_wp2_with (first | ((with_reducible refine gate_callee (f := 38) rfl ?_); refine goesL_ (some 9) rfl rfl Tryd.func38 (by kernel_rfl) rfl #[] rfl (by (try simp only [List.map_toArray, List.map_cons, List.map_nil]); first | done | rfl | (simp only [List.length_drop, List.length_take]; rfl)) ?_; (with_reducible refine (tremalaw04_fixed.calls  true _ A3.out (by first | exact HG.out | exact Va.G.below HG.out (by repeat (first | (with_reducible first | exact HB.out | apply below_alloc | apply pw_below_drewN | apply below_drew1) | exact HB.out)))).mono ?_); rintro e w30 ⟨rfl, hb⟩; refine ⟨_, rfl, ?_⟩; have n0_ := Aside0.mk (below_step (by repeat (first | (with_reducible first | exact HB.out | apply below_alloc | apply pw_below_drewN | apply below_drew1) | exact HB.out)) hb); clear HB; have HB := n0_; clear n0_; (try clear hb); (try clear hb2); (try clear hk); (try clear hi)) | ((with_reducible refine gate_callee (f := 39) rfl ?_); refine goesL_ (some 14) rfl rfl Tryd.func39 (by kernel_rfl) rfl #[.slice A0 l0.length c0, .int .i64 a1] rfl (by (try simp only [List.map_toArray, List.map_cons, List.map_nil]); first | done | rfl | (simp only [List.length_drop, List.length_take]; rfl)) ?_; (with_reducible refine (seg_Split.calls _ _ l0 a1 t449 t450 _ ?side1 ?side2 A5.out (by first | exact HG.out | exact Va.G.below HG.out (by repeat (first | (with_reducible first | exact HB.out | apply below_alloc | apply pw_below_drewN | apply below_drew1) | exact HB.out)))).mono ?_); (case side1 => repeat (first | exact (Kd.C_below HR0.out HB.out) | (with_reducible refine Kd.C_alloc ?_ _) | (with_reducible refine Kd.C_drewN ?_ _) | (with_reducible refine Kd.C_drew ?_))); (case side2 => exact HC0.out); rintro e w31 ⟨v451, rfl, ho0, hb⟩; refine ⟨_, rfl, ?_⟩; have n0_ := Aside0.mk (Kd.R_lower ho0 (below_size (by repeat (first | (with_reducible first | exact HB.out | apply below_alloc | apply pw_below_drewN | apply below_drew1) | exact HB.out)))); have n1_ := Aside0.mk (below_step (by repeat (first | (with_reducible first | exact HB.out | apply below_alloc | apply pw_below_drewN | apply below_drew1) | exact HB.out)) hb); clear HB; have HO452 := n0_; have HB := n1_; clear n0_ n1_; (try clear hb); (try clear hb2); (try clear hk); (try clear hi); (try clear ho0)) | ((with_reducible refine gate_callee (f := 40) rfl ?_); refine goesL_ (some 20) rfl rfl Tryd.func40 (by kernel_rfl) rfl #[.slice A0 l0.length c0, .int .i64 a1] rfl (by (try simp only [List.map_toArray, List.map_cons, List.map_nil]); first | done | rfl | (simp only [List.length_drop, List.length_take]; rfl)) ?_; (with_reducible refine (tremaref04_Split.calls k _ _ l0 a1 t453 t454 _ ?side1 ?side2 A6.out).mono ?_); (case side1 => repeat (first | exact (Kd.C_below HR0.out HB.out) | (with_reducible refine Kd.C_alloc ?_ _) | (with_reducible refine Kd.C_drewN ?_ _) | (with_reducible refine Kd.C_drew ?_))); (case side2 => exact HC0.out); rintro e w32 ⟨v455, rfl, ho0, hb⟩; refine ⟨_, rfl, ?_⟩; have n0_ := Aside0.mk (Kd.R_elder' (by (with_reducible repeat (first | apply Kd.R_alloc | apply Kd.R_drewN | apply Kd.R_drew)); exact HO452.out) (Kd.R_base ho0) hb); have n1_ := Aside0.mk (Kd.R_lower (Kd.R_new' ho0 (Kd.R_lt (by (with_reducible repeat (first | apply Kd.R_alloc | apply Kd.R_drewN | apply Kd.R_drew)); exact HO452.out))) (below_size (by repeat (first | (with_reducible first | exact HB.out | apply below_alloc | apply pw_below_drewN | apply below_drew1) | exact HB.out)))); have n2_ := Aside0.mk (below_step (by repeat (first | (with_reducible first | exact HB.out | apply below_alloc | apply pw_below_drewN | apply below_drew1) | exact HB.out)) hb); clear HO452; clear HB; have HO452 := n0_; have HO456 := n1_; have HB := n2_; clear n0_ n1_ n2_; (try clear hb); (try clear hb2); (try clear hk); (try clear hi); (try clear ho0)))
   go_ret
   exact ⟨by first | rfl | (simp [errW_none, errW_some] <;> rfl) | (simp [*, errW_none, errW_some] <;> rfl), by repeat (first | (with_reducible first | exact HB.out | apply below_alloc | apply pw_below_drewN | apply below_drew1) | exact HB.out)⟩
 ·replace c4 := Bool.eq_false_iff.mpr c4
  subst c4
  have H1 : (some false) = some r := by rw [if_neg (show ¬ (false = true) by decide)] at H; exact H
  clear H
  have H := H1
  clear H1
  obtain rfl := Option.some.inj H
  go_enter Tryd.func12, Tryd.ntmps12
  go_wp2_with (first | ((with_reducible refine gate_callee (f := 38) rfl ?_); refine goesL_ (some 9) rfl rfl Tryd.func38 (by kernel_rfl) rfl #[] rfl (by (try simp only [List.map_toArray, List.map_cons, List.map_nil]); first | done | rfl | (simp only [List.length_drop, List.length_take]; rfl)) ?_; (with_reducible refine (tremalaw04_fixed.calls  false _ A3.out (by first | exact HG.out | exact Va.G.below HG.out (by repeat (first | (with_reducible first | exact HB.out | apply below_alloc | apply pw_below_drewN | apply below_drew1) | exact HB.out)))).mono ?_); rintro e w33 ⟨rfl, hb⟩; refine ⟨_, rfl, ?_⟩; have n0_ := Aside0.mk (below_step (by repeat (first | (with_reducible first | exact HB.out | apply below_alloc | apply pw_below_drewN | apply below_drew1) | exact HB.out)) hb); clear HB; have HB := n0_; clear n0_; (try clear hb); (try clear hb2); (try clear hk); (try clear hi)))
  go_ret
  exact ⟨by first | rfl | (simp [errW_none, errW_some] <;> rfl) | (simp [*, errW_none, errW_some] <;> rfl), by repeat (first | (with_reducible first | exact HB.out | apply below_alloc | apply pw_below_drewN | apply below_drew1) | exact HB.out)⟩
end Go.Proofs.YtiggjbclbdikmaaDoor.X
namespace Go.Proofs.YtiggjbclbdikmaaDoor.Sgr
set_option linter.unusedVariables false
set_option linter.unusedSimpArgs false
open Go.Proofs.YtiggjbclbdikmaaDoor.Ux (Bytes one1 dc rest1 full dec)
open Go.RowKit Go.Proofs.YtiggjbclbdikmaaDoorW.PrintWords Go.Proofs.YtiggjbclbdikmaaDoor.Ev0 Go.Proofs.YtiggjbclbdikmaaDoor.X Go.Proofs.YtiggjbclbdikmaaDoor.Oa Go.Proofs.YtiggjbclbdikmaaDoor.Ob Go.Proofs.YtiggjbclbdikmaaDoor.Vp0 Go.Proofs.YtiggjbclbdikmaaDoor.Vr Go.Proofs.YtiggjbclbdikmaaDoor.Vu Go.Proofs.YtiggjbclbdikmaaDoor.Sga Go.Proofs.YtiggjbclbdikmaaDoor.Sgb Go.Proofs.YtiggjbclbdikmaaDoor.Sgc Go.Proofs.YtiggjbclbdikmaaDoor.Sgd Go.Proofs.YtiggjbclbdikmaaDoor.Sgp Go.Proofs.YtiggjbclbdikmaaDoor.Sgq
theorem fsize (b : List Int) (hB : Bytes b) (hl : b.length ≤ 10000000) : (∀ s ∈ cutS (full b), s.f0.size ≤ 1000000000) ∧ (cutS (full b)).length ≤ b.length := by
  have hfl := Ud.full_len b
  have h := cutS_size (full b) (full_fine b hB (by omega)) (by omega)
  exact ⟨h.1, by omega⟩
theorem splitEv (b : List Int) (hB : Bytes b) (hl : b.length ≤ 10000000) (lim : Int) : Ev (fun k => tremaref04_Split.f k b lim) (splitF lim b) := by
  unfold tremaref04_Split.f
  by_cases h1 : lim < 1
  · simp only [if_pos h1]
    refine Ev.step (fun k => tremaref04_Split.j0.eq_2 ..) ?_
    simp only [if_true]
    have e : splitF lim b = ([], 1) := by unfold splitF; rw [if_pos (Or.inl h1)]
    rw [e]
    exact Ev.now _
  · simp only [if_neg h1]
    refine Ev.step (fun k => tremaref04_Split.j0.eq_2 ..) ?_
    by_cases h2 : lim > 64
    · have e : splitF lim b = ([], 1) := by unfold splitF; rw [if_pos (Or.inr h2)]
      simp only [h2, decide_true, if_true]
      rw [e]
      exact Ev.now _
    · have hs := fsize b hB hl
      rw [split_cut lim b hB (by omega) (by omega) (by omega)]
      simp only [h2, decide_false, Bool.false_eq_true, if_false]
      refine Ev.bind (allEv b hB hl) ?_
      refine Ev.bind (goodEv lim (cutS (full b)) (by omega) hs.1) ?_
      obtain ⟨g1, g2⟩ := goodS lim (cutS (full b))
      cases g2
      · simp only [Bool.false_eq_true, if_false]
        exact Ev.now _
      · simp only [if_true]
        exact Ev.now _
theorem textsEv (l : List SG) (hl : l.length ≤ 100000000) : Ev (fun k => tremaref04_Texts.f k l) (l.map (·.f0)) := by
  unfold tremaref04_Texts.f
  have key : ∀ q i : Nat, i + q = l.length → Ev (fun k => tremaref04_Texts.l0 k l ((l.take i).map (·.f0)) (i : Int)) (l.map (·.f0)) := by
    intro q
    induction q with
    | zero =>
      intro i hi
      obtain rfl : i = l.length := hi
      refine Ev.step (fun k => tremaref04_Texts.l0.eq_2 ..) ?_
      simp only [if_neg (Int.lt_irrefl _), List.take_length]
      exact Ev.now _
    | succ q ih =>
      intro i hi
      have hil : i < l.length := by omega
      have ih := ih (i + 1) (by omega)
      rw [List.take_succ_eq_append_getElem hil, List.map_append] at ih
      refine Ev.step (fun k => tremaref04_Texts.l0.eq_2 ..) ?_
      simp only [if_pos (show (i : Int) < (l.length : Int) by omega), if_pos (show (0 : Int) ≤ (i : Int) by omega), rdG hil, if_pos (show ((l.take i).map (·.f0)).length < 8796093022208 by rw [List.length_map, List.length_take]; omega), w64 (i := i) (by omega)]
      exact ih
  exact key l.length 0 (by omega)
theorem sameSEv (l : List SG) (hl : l.length ≤ 100000000) : Ev (fun k => tremaref04_Same.f k l l) true := by
  unfold tremaref04_Same.f
  simp only [if_true]
  have key : ∀ q i : Nat, i + q = l.length → Ev (fun k => tremaref04_Same.l0 k l l (i : Int)) true := by
    intro q
    induction q with
    | zero =>
      intro i hi
      obtain rfl : i = l.length := hi
      refine Ev.step (fun k => tremaref04_Same.l0.eq_2 ..) ?_
      simp only [if_neg (Int.lt_irrefl _)]
      exact Ev.now _
    | succ q ih =>
      intro i hi
      have ih := ih (i + 1) (by omega)
      refine Ev.step (fun k => tremaref04_Same.l0.eq_2 ..) ?_
      simp only [if_pos (show (i : Int) < (l.length : Int) by omega), if_pos (show (0 : Int) ≤ (i : Int) by omega), beq_self_eq_true, Bool.not_true, Bool.or_self, Bool.false_eq_true, if_false, w64 (i := i) (by omega)]
      exact ih
  exact key l.length 0 (by omega)
theorem ba_loop (b : ByteArray) : ∀ (q i : Nat) (r : List UInt8), i + q = b.size → ByteArray.toList.loop b i r = r.reverse ++ b.data.toList.drop i := by
  intro q
  induction q with
  | zero =>
    intro i r h
    rw [ByteArray.toList.loop]
    rw [if_neg (by omega), List.drop_eq_nil_of_le (by rw [Array.length_toList]; show b.size ≤ i; omega), List.append_nil]
  | succ q ih =>
    intro i r h
    have hi : i < b.data.toList.length := by rw [Array.length_toList]; show i < b.size; omega
    rw [ByteArray.toList.loop, if_pos (by omega), ih (i + 1) _ (by omega), List.drop_eq_getElem_cons hi]
    have e : b.get! i = b.data.toList[i] := by
      rw [Array.getElem_toList]
      show b.data[i]! = _
      exact getElem!_pos b.data i _
    rw [e]
    simp
theorem ba_data (b : ByteArray) : b.toList = b.data.toList := by
  unfold ByteArray.toList
  rw [ba_loop b b.size 0 [] (by omega)]
  simp
theorem ba_list (a b : ByteArray) : a.toList = b.toList ↔ a = b := by
  rw [ba_data, ba_data]
  constructor
  · intro h
    cases a
    cases b
    exact congrArg ByteArray.mk (Array.toList_inj.1 h)
  · intro h
    rw [h]
theorem rdS {l : List ByteArray} {i : Nat} (h : i < l.length) : rdOf ByteArray.empty l (i : Int) = l[i] := by unfold rdOf; simp [List.getD_eq_getElem?_getD, List.getElem?_eq_getElem h]
theorem sameTEv (l m : List ByteArray) (hl : l.length ≤ 100000000) : Ev (fun k => tremaref01_SameTexts.f k l m) (decide (l = m)) := by
  unfold tremaref01_SameTexts.f
  by_cases hlm : l.length = m.length
  · simp only [if_pos (show (l.length : Int) = (m.length : Int) by omega)]
    have key : ∀ q i : Nat, i + q = l.length → (l.take i = m.take i) → Ev (fun k => tremaref01_SameTexts.l0 k l m (i : Int)) (decide (l = m)) := by
      intro q
      induction q with
      | zero =>
        intro i hi hp
        obtain rfl : i = l.length := hi
        refine Ev.step (fun k => tremaref01_SameTexts.l0.eq_2 ..) ?_
        simp only [if_neg (Int.lt_irrefl _)]
        have e : l = m := by rw [List.take_length, hlm, List.take_length] at hp; exact hp
        rw [decide_eq_true e]
        exact Ev.now _
      | succ q ih =>
        intro i hi hp
        have hil : i < l.length := by omega
        have him : i < m.length := by omega
        refine Ev.step (fun k => tremaref01_SameTexts.l0.eq_2 ..) ?_
        simp only [if_pos (show (i : Int) < (l.length : Int) by omega), if_pos (show (0 : Int) ≤ (i : Int) by omega), if_pos (show (i : Int) < (m.length : Int) by omega), rdS hil, rdS him, ba_list]
        by_cases he : l[i] = m[i]
        · simp only [if_pos he, w64 (i := i) (by omega)]
          refine ih (i + 1) (by omega) ?_
          rw [List.take_succ_eq_append_getElem hil, List.take_succ_eq_append_getElem him, hp, he]
        · simp only [if_neg he]
          rw [decide_eq_false (fun h => he (by subst h; rfl))]
          exact Ev.now _
    exact key l.length 0 (by omega) rfl
  · simp only [if_neg (show ¬ (l.length : Int) = (m.length : Int) by omega)]
    rw [decide_eq_false (fun h => hlm (by rw [h]))]
    exact Ev.now _
theorem bytesB_mk {l : List Int} (h : Bytes l) : bytesB l = true := by
  unfold bytesB
  rw [List.all_eq_true]
  intro x hx
  have := h x hx
  simp
  omega
theorem splitF_len (b : List Int) (hB : Bytes b) (hl : b.length ≤ 10000000) (lim : Int) : (splitF lim b).1.length ≤ b.length := by
  by_cases h : lim < 1 ∨ lim > 64
  · unfold splitF
    rw [if_pos h]
    simp
  · rw [split_cut lim b hB (by omega) (by omega) (by omega)]
    have hs := (fsize b hB hl).2
    have hg : ∀ l : List SG, (goodS lim l).1.length ≤ l.length := by
      intro l
      induction l with
      | nil => simp [goodS]
      | cons x t ih => rw [goodS]; split <;> simp <;> exact ih
    have := hg (cutS (full b))
    show (goodS lim (cutS (full b))).1.length ≤ _
    omega
theorem SegSplits (l : List Int) (hwf : ∀ x ∈ l, (Lit.int .u8 x).wf = true) (hl : l.length ≤ 1048576) (lim : Int) (hlw : (Lit.int .i64 lim).wf = true) : ∃ k, tremalaw04_SegSplits.f k l lim = some true := by
  have hb := Ot.wf_bytes hwf
  have hS := fsize l hb (by omega)
  have hsl := splitF_len l hb (by omega) lim
  have e1 : seg_Split.f l lim = some (splitF lim l) := by unfold seg_Split.f; rw [if_pos ⟨bytesB_mk hb, by omega⟩]
  have e2 : seg_Texts.f l = some (textsF l) := by unfold seg_Texts.f; rw [if_pos ⟨bytesB_mk hb, by omega⟩]
  apply Ev.rounds (g := fun k => tremalaw04_SegSplits.f k l lim)
  unfold tremalaw04_SegSplits.f tremalaw04_fixed.f
  simp only [Option.bind_some, if_true, e1, e2]
  refine Ev.bind (splitEv l hb (by omega) lim) ?_
  simp only [if_true]
  refine Ev.bind (sameSEv _ (by omega)) ?_
  simp only [if_true]
  refine Ev.bind (allEv l hb (by omega)) ?_
  refine Ev.bind (textsEv _ (by omega)) ?_
  rw [texts_cut l hb (by omega)]
  refine Ev.bind (sameTEv _ _ (by rw [List.length_map]; omega)) ?_
  rw [decide_eq_true rfl]
  exact Ev.now _
end Go.Proofs.YtiggjbclbdikmaaDoor.Sgr
namespace Go.Proofs.YtiggjbclbdikmaaDoor.Od
set_option linter.unusedVariables false
set_option linter.unusedSimpArgs false
open Go.RowKit Go.Proofs.YtiggjbclbdikmaaDoorW.PrintWords Go.Proofs.YtiggjbclbdikmaaDoor.Hp Go.ChangeShapes Go.WideShapes
def Opens {α : Type} (P : Program) (t : TypeId) (d : Kd α) (wf : α → Prop) (bulk : α → Nat) : Prop :=
  ∀ (H : Type) (enc : TypeId × Value → H) (w : World) (base : Nat) (spare : Nat → Bool) (held : Bool) (fuel : Nat) (cs : List Value) (x : DataW H × List MemPlace),
    DataW.trod enc P w base spare held fuel t cs = some x → ∃ a, d.K w a cs ∧ wf a ∧ bulk a ≤ Rows.uptoBulk x.1
def sumB {α : Type} (bulk : α → Nat) : List α → Nat
  | [] => 0
  | a :: l => bulk a + sumB bulk l
theorem sumB_len {α : Type} {bulk : α → Nat} (h1 : ∀ a, 1 ≤ bulk a) (l : List α) : l.length ≤ sumB bulk l := by
  induction l with
  | nil => simp [sumB]
  | cons x l ih => simp only [sumB, List.length_cons]; have := h1 x; omega
theorem bulkAll_append {H : Type} (l r : List (DataW H)) : Rows.uptoBulkAll (l ++ r) = Rows.uptoBulkAll l + Rows.uptoBulkAll r := by
  induction l with
  | nil => simp [Rows.uptoBulkAll]
  | cons x l ih => simp only [List.cons_append, Rows.uptoBulkAll, ih]; omega
section
variable {P : Program}
theorem opens_int {t : TypeId} {k : IntKind} (ht : P.underlying t = some (.int k)) : Opens P t (Kd.int k) (fun n => (Lit.int k n).wf = true) (fun _ => 1) := by
  intro H enc w base spare held fuel cs x h
  obtain ⟨n, rfl, rfl, hw⟩ := DataW.trod_int ht h
  exact ⟨n, rfl, hw, by simp [Rows.uptoBulk]⟩
theorem slice_list {α : Type} {d : Kd α} {wf : α → Prop} {bulk : α → Nat} {e : TypeId} {H : Type} {enc : TypeId × Value → H} {w : World} {base : Nat} {spare : Nat → Bool} {held : Bool} (ho : Opens P e d wf bulk) (hC : P.cellsOf e = d.sz) {a : Addr} {m n : Nat} {D : Nat → DataW H} {Pl : Nat → List MemPlace}
    (hx : ∀ i, i < m → ∃ cs', w.cells? base (a.add (i * P.cellsOf e)) (P.cellsOf e) = some cs' ∧ DataW.trod enc P w base spare held n e cs' = some (D i, Pl i)) (len : Nat) (hl : len ≤ m) (hM : len ≤ 9223372036854775807) :
    ∃ xs : List α, xs.length = len ∧ d.C w (some a) len xs ∧ (∀ x, x ∈ xs → wf x) ∧ sumB bulk xs ≤ Rows.uptoBulkAll ((List.range len).map D) := by
  have key : ∀ k, k ≤ len → ∃ xs : List α, xs.length = k ∧ (∀ j p, xs[j]? = some p → ∃ c, c.length = d.sz ∧ d.K w p c ∧ ∀ i u, c[i]? = some u → w.cell? (a.add (j * d.sz + i)) = some u) ∧ (∀ x, x ∈ xs → wf x) ∧ sumB bulk xs ≤ Rows.uptoBulkAll ((List.range k).map D) := by
    intro k
    induction k with
    | zero => exact fun _ => ⟨[], rfl, by simp, by simp, by simp [sumB]⟩
    | succ k ih =>
      intro hk
      obtain ⟨xs, h1, h2, h3, h4⟩ := ih (by omega)
      obtain ⟨cs', hc, ht⟩ := hx k (by omega)
      obtain ⟨p, hK, hw, hb⟩ := ho H enc w base spare held n cs' _ ht
      obtain ⟨_, hcl, hcell⟩ := World.cells?_some hc
      refine ⟨xs ++ [p], by simp [h1], ?_, ?_, ?_⟩
      · intro j q hq
        rw [List.getElem?_append] at hq
        split at hq
        · exact h2 j q hq
        · rename_i hge
          rcases Nat.lt_or_ge (j - xs.length) 1 with h5 | h5
          · have hj : j = k := by omega
            subst hj
            rw [h1, Nat.sub_self] at hq
            simp at hq
            subst hq
            refine ⟨cs', by rw [hcl, hC], hK, fun i u hu => ?_⟩
            have hi : i < P.cellsOf e := by rw [← hcl]; exact (List.getElem?_eq_some_iff.1 hu).1
            have := hcell i hi
            rw [Go.Deep.add_add, hC] at this
            rw [this, hu]
          · rw [List.getElem?_eq_none (by simpa using h5)] at hq; cases hq
      · intro x hx
        rcases List.mem_append.1 hx with hx | hx
        · exact h3 x hx
        · rw [List.mem_singleton.1 hx]; exact hw
      · have e2 : sumB bulk (xs ++ [p]) = sumB bulk xs + bulk p := by
          clear h1 h2 h3 h4
          induction xs with
          | nil => simp [sumB]
          | cons y ys ih2 => simp only [List.cons_append, sumB, ih2]; omega
        rw [e2, List.range_succ, List.map_append, bulkAll_append]
        simp only [List.map_cons, List.map_nil, Rows.uptoBulkAll]
        have hb2 : bulk p ≤ Rows.uptoBulk (D k) := hb
        omega
  obtain ⟨xs, h1, h2, h3, h4⟩ := key len (Nat.le_refl _)
  exact ⟨xs, h1, ⟨h1, hM, fun _ => ⟨a, rfl, h2⟩⟩, h3, h4⟩
theorem arg_slice {α : Type} {d : Kd α} {wf : α → Prop} {bulk : α → Nat} {t e : TypeId} (ht : P.underlying t = some (.slice e)) (hC : P.cellsOf e = d.sz) (ho : Opens P e d wf bulk)
    {H : Type} {enc : TypeId × Value → H} {w : World} {base : Nat} {spare : Nat → Bool} {held : Bool} {v : Value} {data : DataW H} {ps : List MemPlace} {r : Reach} {b0 : Nat} (hv : Value.okWide P w r b0 t v) (h : DataW.Trod enc P w base spare held t v data ps) :
    ∃ A xs c, v = .slice A xs.length c ∧ xs.length ≤ c ∧ d.C w A xs.length xs ∧ (∀ x, x ∈ xs → wf x) ∧ sumB bulk xs + 1 ≤ Rows.uptoBulk data ∧
      (∀ (ts : List TypeId) (ds : List (DataW H)) (j B : Nat), (DataW.weightsEach P ts ds).all (· ≤ reachBytes) = true → ts[j]? = some t → ds[j]? = some data → P.bytesOf e = B → xs.length * B ≤ 140737488351232) := by
  obtain ⟨a0, len0, cap0, rfl⟩ := okWide_slice ht hv
  obtain ⟨fuel, hf⟩ := h
  rcases Go.Deep.open_slice ht hf with ⟨hcs, hx⟩ | ⟨a, len, cap, m, n, D, Pl, hcs, hb, hl, hm, hmm, hx, hi⟩
  · simp [Value.cells] at hcs
    obtain ⟨rfl, rfl, rfl⟩ := hcs
    obtain ⟨rfl, rfl⟩ := Prod.mk.inj hx
    exact ⟨none, [], 0, rfl, Nat.le_refl _, Kd.C_nil d w, by simp, by simp [sumB, Rows.uptoBulk], by simp⟩
  · simp [Value.cells] at hcs
    obtain ⟨rfl, rfl, rfl⟩ := hcs
    obtain ⟨rfl, rfl⟩ := Prod.mk.inj hx
    obtain ⟨xs, h1, h2, h3, h4⟩ := slice_list ho hC hi len0 (by rw [hmm]; split <;> omega) (by simp only [maxLen] at hm; omega)
    subst h1
    refine ⟨some a, xs, cap0, rfl, hl, h2, h3, by simp only [Rows.uptoBulk]; omega, ?_⟩
    intro ts ds j B hsz htj hdj hB
    have z := sized_slice hsz htj hdj ht
    rw [hB] at z
    have hr : reachBytes = 140737488351232 := by decide
    simp only [List.length_map, List.length_range] at z
    rw [hr] at z
    exact Nat.le_trans (Nat.mul_le_mul_right _ (by omega)) z
end
end Go.Proofs.YtiggjbclbdikmaaDoor.Od
namespace Go.Proofs.YtiggjbclbdikmaaDoor.Lv
set_option linter.unusedVariables false
set_option linter.unusedSimpArgs false
open Go.ChangeShapes Go.WideShapes Go.ChangeAt Go.RowKit Go.Proofs.YtiggjbclbdikmaaDoorW.PrintWords Go.Proofs.YtiggjbclbdikmaaDoor.Va
theorem ints_of_array {H : Type} {enc : TypeId × Value → H} {P : Program} {w : World} {base : Nat} {sp : Nat → Bool} {held : Bool} {fuel : Nat} {t e : TypeId} {k : IntKind} {n : Nat} {cs : List Value} {l : List Int} {p : List MemPlace}
    (ht : P.underlying t = some (.array n e)) (he : P.underlying e = some (.int k)) (hC : P.cellsOf e = 1) (hT : P.cellsOf t = n) (h : DataW.trod enc P w base sp held fuel t cs = some (.agg (l.map fun x => .lit (.int k x)), p)) : cs = nums k l := by
  obtain ⟨xs, m, -, hx, hl, hxl, hi⟩ := DataW.trod_array ht h
  obtain ⟨hx1, -⟩ := Prod.mk.inj hx
  injection hx1 with hx1
  have hln : l.length = n := by have := congrArg List.length hx1; simpa [hxl] using this
  rw [hT] at hl
  unfold nums
  refine List.ext_getElem (by simp [hl, hln]) fun i h1 h2 => ?_
  have hin : i < n := by omega
  have hxi := hi i hin
  rw [hC, Nat.mul_one, List.getElem?_eq_getElem (by omega : i < xs.length)] at hxi
  obtain ⟨z, e1, e2, -⟩ := DataW.trod_int he hxi
  have e3 : (xs[i]'(by omega)).1 = DataW.lit (.int k (l[i]'(by omega))) := by
    have := congrArg (fun q => q[i]?) hx1
    simp [List.getElem?_eq_getElem (show i < l.length by omega), List.getElem?_eq_getElem (show i < xs.length by omega)] at this
    exact this.symm
  rw [e2] at e3
  injection e3 with e3
  injection e3 with _ e3
  have e4 : cs[i]'h1 = .int k z := by
    rw [List.drop_eq_getElem_cons h1, List.take_succ_cons, List.take_zero] at e1
    exact (List.cons.inj e1).1
  rw [e4, List.getElem_map, e3]
theorem triples_of_array {H : Type} {enc : TypeId × Value → H} {P : Program} {w : World} {base : Nat} {sp : Nat → Bool} {held : Bool} {fuel : Nat} {t e e3 : TypeId} {n : Nat} {cs : List Value} {l : List (Int × Int × Int)} {p : List MemPlace}
    (ht : P.underlying t = some (.array n e)) (he : P.underlying e = some (.array 3 e3)) (he3 : P.underlying e3 = some (.int .i32)) (hC3 : P.cellsOf e3 = 1) (hC : P.cellsOf e = 3) (hT : P.cellsOf t = n * 3) (h : DataW.trod enc P w base sp held fuel t cs = some (.agg (l.map fun x => .agg ([x.1, x.2.1, x.2.2].map fun y => .lit (.int .i32 y))), p)) : cs = cells3 l := by
  obtain ⟨xs, m, -, hx, hl, hxl, hi⟩ := DataW.trod_array ht h
  obtain ⟨hx1, -⟩ := Prod.mk.inj hx
  injection hx1 with hx1
  have hln : l.length = n := by have := congrArg List.length hx1; simpa [hxl] using this
  rw [hT] at hl
  have key : ∀ i (hin : i < l.length), (cs.drop (i * 3)).take 3 = nums .i32 [l[i].1, l[i].2.1, l[i].2.2] := by
    intro i hin
    have hxi := hi i (by omega)
    rw [hC, List.getElem?_eq_getElem (by omega : i < xs.length)] at hxi
    have e3' : (xs[i]'(by omega)).1 = DataW.agg ([l[i].1, l[i].2.1, l[i].2.2].map fun y => .lit (.int .i32 y)) := by
      have := congrArg (fun q => q[i]?) hx1
      simp [List.getElem?_eq_getElem (show i < l.length by omega), List.getElem?_eq_getElem (show i < xs.length by omega)] at this
      exact this.symm
    rw [show xs[i]'(by omega) = ((xs[i]'(by omega)).1, (xs[i]'(by omega)).2) from rfl, e3'] at hxi
    exact ints_of_array he he3 hC3 hC hxi
  clear hi hx1 hx hxl ht h
  have go : ∀ (l : List (Int × Int × Int)) (cs : List Value), cs.length = l.length * 3 → (∀ i (hin : i < l.length), (cs.drop (i * 3)).take 3 = nums .i32 [l[i].1, l[i].2.1, l[i].2.2]) → cs = cells3 l := by
    intro l
    induction l with
    | nil => intro cs h1 _; exact List.eq_nil_of_length_eq_zero (by simpa using h1)
    | cons x r ih =>
      intro cs h1 h2
      have h0 := h2 0 (by simp)
      have hr := ih (cs.drop 3) (by rw [List.length_drop, h1]; simp; omega) (fun i hin => by
        have := h2 (i + 1) (by simp; omega)
        rw [List.drop_drop, show 3 + i * 3 = (i + 1) * 3 by omega]
        exact this)
      rw [Nat.zero_mul, List.drop_zero] at h0
      rw [← List.take_append_drop 3 cs, h0, hr]
      rfl
  exact go l cs (by omega) key
abbrev laid : List (String × DataW Unit) := [("trema/ucd.classes", Rows.laid_trema_ucd_classes), ("trema/ucd.pairs", Rows.laid_trema_ucd_pairs), ("trema/ucd.marks", Rows.laid_trema_ucd_marks)]
theorem d0 : (Rows.laid_trema_ucd_classes : DataW Unit) = .agg (clsT.map fun x => .agg ([x.1, x.2.1, x.2.2].map fun y => .lit (.int .i32 y))) := by kernel_rfl
theorem d1 : (Rows.laid_trema_ucd_pairs : DataW Unit) = .agg (prsT.map fun x => .agg ([x.1, x.2.1, x.2.2].map fun y => .lit (.int .i32 y))) := by kernel_rfl
theorem d2 : (Rows.laid_trema_ucd_marks : DataW Unit) = .agg (mksT.map fun y => .lit (.int .i32 y)) := by kernel_rfl
theorem door_met (os : Os) (args : Array Value) : laidMetH Tryd.prog laid ((World.doorLaid Tryd.prog 400 os).forCall (fun _ _ => 0) ⟨#[], args, []⟩).memory :=
  laidMetH_of_parts3 (fuel := 8) (laidMet_of_run' 8 (by kernel_rfl) (by kernel_rfl)) (by kernel_rfl) (by kernel_rfl)
theorem of_laid {W : World} (h : laidMetH Tryd.prog laid W) : G W := by
  rw [MakeChecks.laidMetH_plain _ _ _ (by kernel_rfl)] at h
  obtain ⟨ps, ⟨g0, t0, cs0, f0, p0, q0, hg0, ht0, hv0, hd0, ⟨g1, t1, cs1, f1, p1, q1, hg1, ht1, hv1, hd1, ⟨g2, t2, cs2, f2, p2, q2, hg2, ht2, hv2, hd2, _, _⟩, _⟩, _⟩, _, _⟩ := h
  obtain rfl := Option.some.inj ((show Tryd.prog.globalNamed "trema/ucd.classes" = some 0 by kernel_rfl).symm.trans hg0)
  obtain rfl := Option.some.inj ((show Tryd.prog.globalNamed "trema/ucd.pairs" = some 1 by kernel_rfl).symm.trans hg1)
  obtain rfl := Option.some.inj ((show Tryd.prog.globalNamed "trema/ucd.marks" = some 2 by kernel_rfl).symm.trans hg2)
  obtain rfl := Option.some.inj ((show (Tryd.prog.globals[0]?).map (·.type) = some 100 by kernel_rfl).symm.trans ht0)
  obtain rfl := Option.some.inj ((show (Tryd.prog.globals[1]?).map (·.type) = some 106 by kernel_rfl).symm.trans ht1)
  obtain rfl := Option.some.inj ((show (Tryd.prog.globals[2]?).map (·.type) = some 114 by kernel_rfl).symm.trans ht2)
  rw [d0] at hd0
  rw [d1] at hd1
  rw [d2] at hd2
  have c0 := triples_of_array Tryd.underlying100 Tryd.underlying99 Tryd.underlying21 (by kernel_rfl) (by kernel_rfl) (by kernel_rfl) hd0
  have c1 := triples_of_array Tryd.underlying106 Tryd.underlying99 Tryd.underlying21 (by kernel_rfl) (by kernel_rfl) (by kernel_rfl) hd1
  have c2 := ints_of_array Tryd.underlying114 Tryd.underlying21 (by kernel_rfl) (by kernel_rfl) hd2
  refine ⟨fun j v hv => ?_, fun j v hv => ?_, fun j v hv => ?_⟩
  · have := World.var?_cell hg0 hv0 j
    rw [← Array.getElem?_toList, c0, hv] at this
    simpa using this
  · have := World.var?_cell hg1 hv1 j
    rw [← Array.getElem?_toList, c1, hv] at this
    simpa using this
  · have := World.var?_cell hg2 hv2 j
    rw [← Array.getElem?_toList, c2, hv] at this
    simpa using this
end Go.Proofs.YtiggjbclbdikmaaDoor.Lv
namespace Go.Proofs.YtiggjbclbdikmaaDoor.segSplits
open Go.ChangeShapes Go.WideShapes Go.ChangeAt Go.RowKit
open Go.ChangeMaps (open_string shut_string)
set_option linter.unusedVariables false
set_option linter.unusedSimpArgs false
theorem own : ownKnob Tryd.prog.godebug = none := by kernel_rfl
theorem laidOut : laidOutB Tryd.prog = true := by kernel_rfl
set_option maxRecDepth 100000 in
theorem contract (H : Type) (enc : TypeId × Value → H) (W : World) (base : Nat) (args : Array Value) (ds gs : List (DataW H)) (before : List MemPlace)
    (hval0 : ∀ (j : Nat) t v, Tryd.f12.params[j]? = some t → args[j]? = some v → Value.okWide Tryd.prog W .any base t v)
    (hW : DataW.Whole enc Tryd.prog Tryd.f12.params.toList Rows.segSplitsSpec.vars false W args.toList ds gs before)
    (hL : laidMetH Tryd.prog Lv.laid W)
    (hk0 : Rows.uptoSmall H (ds ++ gs) = true) :
    Calls Tryd.prog 12 args W fun e W' => ∃ v, e = .returned v ∧ Rows.segSplitsSpec.post enc Tryd.prog Tryd.f12 false true false false W args v W' := by
  have hkb : Rows.uptoBulkAll (ds ++ gs) ≤ 1048576 := of_decide_eq_true hk0
  have hval : ∀ (j : Nat) t v, Tryd.f12.params[j]? = some t → args[j]? = some v → Value.okWide Tryd.prog W .any base t v := hval0
  have hW' := hW
  obtain ⟨p, q, hA0, hV, rfl, hfz, hnd⟩ := hW
  have hA : DataW.TrodAll enc Tryd.prog W 0 (fun _ => true) true Tryd.f12.params.toList args.toList ds p := hA0
  rw [Tryd.params12] at hA hval
  obtain ⟨v0, vs0, d0, ds0, p0, q0, hargs, rfl, rfl, h0, r0⟩ := trodAll_cons hA
  obtain ⟨v1, vs1, d1, ds1, p1, q1, rfl, rfl, rfl, h1, r1⟩ := trodAll_cons r0
  obtain ⟨rfl, rfl, rfl⟩ := trodAll_nil r1
  obtain rfl : args = #[v0, v1] := by cases args; simp_all
  obtain ⟨rfl, rfl⟩ := trodVars_none hV
  have k0 := h0
  have lt0 : ∀ x ∈ p0, x.block < W.heap.size := by obtain ⟨m, hm⟩ := k0; exact DataW.trod_lt m _ _ _ hm
  obtain ⟨A0, xs0, c0, rfl, hc0, hC0, hw0, hb0, hz0⟩ := Od.arg_slice Tryd.underlying27 (by kernel_rfl) (Od.opens_int Tryd.underlying5) (hval 0 27 v0 rfl rfl) h0
  obtain ⟨a1, rfl, rfl, rfl, w1⟩ := open_int Tryd.underlying3 (hval 1 3 v1 rfl rfl) h1
  simp only [List.append_nil, Rows.uptoBulkAll] at hkb
  have hB0 := Nat.le_trans (Nat.le_trans (Nat.le_succ _) hb0) (show Rows.uptoBulk d0 ≤ 1048576 by omega)
  clear hA0 hval0 hk0
  obtain ⟨k, hk⟩ := Go.Proofs.YtiggjbclbdikmaaDoor.Sgr.SegSplits xs0 hw0 (Nat.le_trans (Od.sumB_len (fun _ => Nat.le_refl _) _) hB0) a1 w1
  refine (Go.Proofs.YtiggjbclbdikmaaDoor.X.tremalaw04_SegSplits.calls k A0 c0 xs0 a1 true W hC0 hc0 hk (Lv.of_laid hL)).mono fun e W' ⟨he, bel⟩ => ?_
  subst he
  exact ⟨_, rfl, _, _, _, [], _, [], hW', trodAll_mk1 (shut_bool Tryd.underlying4 _), (trodAll_cons_mk (Below.trod laidOut (by kernel_rfl) (of_decide_eq_true (by kernel_rfl)) k0 bel lt0) (trodAll_cons_mk (shut_int Tryd.underlying3 w1) trodAll_mk0)), rfl, bel.frame _, fun h => by cases h⟩
set_option maxRecDepth 100000 in
theorem lifted (os : Os) (started : os.Started) (H : Type) (enc : TypeId × Value → H) (F : Stop.Interp) :
    ReturnsInHanded {} Tryd.checked os 12 .any ((Rows.OpenSpec.upto Rows.segSplitsSpec).preRow enc Tryd.prog Tryd.f12 Rows.segSplitsUptoRow.domain false Rows.segSplitsUptoRow.laid) (((Rows.OpenSpec.upto Rows.segSplitsSpec).at F).post enc Tryd.prog Tryd.f12 false true false false) := by
  refine returnsInHanded_of_row (C := Tryd.checked) (s := Rows.OpenSpec.upto Rows.segSplitsSpec) own started (by kernel_rfl) Tryd.func12
    (witness_row_atRef (enc := enc) (C := Tryd.checked) false (World.doorLaid Tryd.prog 400 os) #[(.slice none 0 0), (.int .i64 0)] rfl (by kernel_rfl) (by kernel_rfl) (by kernel_rfl)
      (OpenSpec.preRow_of_cond (x := ([.nil, .lit (.int .i64 0)], [], [])) 8 (by kernel_rfl) (by kernel_rfl) (fun k hk => by cases hk; kernel_rfl) (by kernel_rfl) (Lv.door_met os _))) ?_
  intro W base args ds gs before hval hW _ hcond _ hL _ _
  exact contract H enc W base args ds gs before hval hW hL (hcond _ rfl)
theorem proved : Rows.SegSplitsUptoSaid :=
  OpenClaim.holds_of_cond 12 Tryd.f12 rfl rfl rfl rfl rfl rfl rfl ⟨rfl, rfl, rfl, rfl, rfl⟩ rfl rfl rfl rfl rfl (by kernel_rfl) Tryd.func12 (by kernel_rfl)
    (of_decide_eq_true (by kernel_rfl)) (by unfold Func.isWrapper; first | (rw [if_pos (by decide +kernel)]; kernel_rfl) | (rw [if_neg (by decide +kernel)]; exact ⟨rfl, rfl⟩))
    (fun os started H enc _ F => by rw [OpenClaim.pre_eq_preRow]; exact lifted os started H enc F)
end Go.Proofs.YtiggjbclbdikmaaDoor.segSplits
namespace Go.Proofs.YtiggjbclbdikmaaDoor
theorem segSplits_holds : Rows.SegSplitsUptoCardSaid :=
  Claim7.holds_tied_plain_at .later [] [.data, .data, .data] true (true, "fdf6c36acc2ff838e2b06de7c88b3a207dcf6760465f25f192835ebb1407940d") false
    segSplits.proved (fun _ h => by cases h) (by kernel_rfl) (fun _ h => by cases h) segSplitsUpto_row_tie rfl ⟨rfl, rfl⟩ (by kernel_rfl) rfl
    (fun f fn hf hfn => by
      obtain rfl : f = 12 := Option.some.inj ((show Tryd.prog.funcNamed "trema/tremalaw04.SegSplits" = some 12 by kernel_rfl).symm.trans hf) |>.symm
      obtain rfl : fn = Tryd.f12 := (Option.some.inj (Tryd.func12.symm.trans hfn)).symm
      exact ⟨by kernel_rfl, fun j t ht => by
        rw [Tryd.params12] at ht
        have hm : t ∈ [27, 3] := by simpa using Array.mem_of_getElem? ht
        have hall : ([27, 3].all fun u => !Tryd.prog.wantsStandIn u) = true := by kernel_rfl
        exact (show Tryd.prog.wantsStandIn t = false by simpa using List.all_eq_true.1 hall t hm)⟩)
    (by kernel_rfl)
#print axioms segSplits_holds
end Go.Proofs.YtiggjbclbdikmaaDoor
