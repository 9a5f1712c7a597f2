/-
  Several texts of this claim in one: what its law's proof uses.
-/
import Derived.Test.YtdambnclbpipdaaGreatDoorMMR1
import Derived.Test.YtdambnclbpipdaaGreatDoorMMR4
import Derived.Test.YtdambnclbpipdaaGreatDoorMMR3
import Derived.Test.YtdambnclbpipdaaGreatDoorMMR2
import Derived.WalkSpells
import Derived.BigQuiet
import Derived.Deep.RegionHeld3
import Derived.Deep.DeepCutAuto
import Derived.Lib.SlKeysI
import Derived.Shelf.SlMaps.Clone
import Derived.Shelf.SlIterI.Nil
import Derived.Shelf.SlIter.Nil
import Derived.Shelf.SortM.Plain
import Derived.Shelf.SortM.SortNone
import Derived.Test.YtdambnclbpipdaaGreatDoorProg
namespace Go.Proofs.YtdambnclbpipdaaGreatDoor.X
open Go.RowKit Go.Proofs.YtdambnclbpipdaaGreatDoorW.PrintWords Go.Proofs.YtdambnclbpipdaaGreatDoorW.PrintLast Go.Proofs.YtdambnclbpipdaaGreatDoorW.PrintMore
attribute [local go_sem] max2_int min2_int max_two min_two max_three min_three max_four min_four   
set_option linter.unusedVariables false
set_option linter.unusedSimpArgs false
def words_within.f (k : Nat) (l0 : List (S154)) (a1 : Int) : Option (Bool) := if 0 ≤ a1 then (if a1 < (l0.length : Int) then ((words_kind.f ((rd_T154 l0 a1).f0)).bind fun t298 => (if t298 = 0 then ((words_joint.f k ((rd_T154 l0 a1).f0)).bind fun t300 => (if t300 = 0 then (some false) else (if a1 > 0 then (if (wrap64 (a1 + 1)) < (l0.length : Int) then (if 0 ≤ (wrap64 (a1 - 1)) then (if (wrap64 (a1 - 1)) < (l0.length : Int) then ((words_kind.f ((rd_T154 l0 (wrap64 (a1 - 1))).f0)).bind fun t302 => (if t302 = t300 then (if 0 ≤ (wrap64 (a1 + 1)) then ((words_kind.f ((rd_T154 l0 (wrap64 (a1 + 1))).f0)).bind fun t304 => (some (t304 == t300))) else (none)) else (some false))) else (none)) else (none)) else (some false)) else (some false)))) else (some true))) else (none)) else (none)
theorem words_within.mono : ∀ a0 a1 k, LeO (words_within.f k a0 a1) (words_within.f (k + 1) a0 a1) := by
 intro a0 a1 k
 unfold words_within.f
 repeat' first
   | (with_reducible exact words_joint.mono _ _)
   | (with_reducible exact LeO.refl _)
   | (with_reducible exact LeO.none _)
   | (with_reducible refine LeO.ite ?_ ?_)
   | (with_reducible refine LeO.bind ?_ (fun _ => ?_))
   | exact words_joint.mono _ _
   | exact LeO.none _
   | refine LeO.ite ?_ ?_
   | refine LeO.bind ?_ (fun _ => ?_)
set_option maxHeartbeats 8000000 in
set_option maxRecDepth 100000 in
theorem words_within.calls (k : Nat) (A0 : Option Addr) (c0 : Nat) (l0 : List (S154)) (a1 : Int) (r : Bool) (w : World) (hr0 : Kd.C k154 w A0 l0.length l0) (hc0 : l0.length ≤ c0) (h : words_within.f k l0 a1 = some r) :
  Calls Tryz.prog 94 #[.slice A0 l0.length c0, .int .i64 a1] w fun e w' => e = .returned (.bool r) ∧ Below w.heap.size w w' := by
 have HR0 := Aside0.mk hr0
 have HC0 := Aside0.mk hc0
 clear hr0 hc0
 have HB := Aside0.mk (Below.refl w.heap.size w)
 have H : (if 0 ≤ a1 then (if a1 < (l0.length : Int) then ((words_kind.f ((rd_T154 l0 a1).f0)).bind fun t298 => (if t298 = 0 then ((words_joint.f k ((rd_T154 l0 a1).f0)).bind fun t300 => (if t300 = 0 then (some false) else (if a1 > 0 then (if (wrap64 (a1 + 1)) < (l0.length : Int) then (if 0 ≤ (wrap64 (a1 - 1)) then (if (wrap64 (a1 - 1)) < (l0.length : Int) then ((words_kind.f ((rd_T154 l0 (wrap64 (a1 - 1))).f0)).bind fun t302 => (if t302 = t300 then (if 0 ≤ (wrap64 (a1 + 1)) then ((words_kind.f ((rd_T154 l0 (wrap64 (a1 + 1))).f0)).bind fun t304 => (some (t304 == t300))) else (none)) else (some false))) else (none)) else (none)) else (some false)) else (some false)))) else (some true))) else (none)) else (none)) = some r := h
 clear h
 by_cases c3 : 0 ≤ a1
 ·rw [if_pos c3] at H
  have c3b0 : decide (0 ≤ a1) = true := decide_eq_true c3
  clear c3
  by_cases c4 : a1 < (l0.length : Int)
  ·rw [if_pos c4] at H
   have c4b0 : decide (a1 < (l0.length : Int)) = true := decide_eq_true c4
   clear c4
   replace H := Option.bind_eq_some_iff.mp H
   obtain ⟨t298, A50, H⟩ := H
   replace H : (if t298 = 0 then ((words_joint.f k ((rd_T154 l0 a1).f0)).bind fun t300 => (if t300 = 0 then (some false) else (if a1 > 0 then (if (wrap64 (a1 + 1)) < (l0.length : Int) then (if 0 ≤ (wrap64 (a1 - 1)) then (if (wrap64 (a1 - 1)) < (l0.length : Int) then ((words_kind.f ((rd_T154 l0 (wrap64 (a1 - 1))).f0)).bind fun t302 => (if t302 = t300 then (if 0 ≤ (wrap64 (a1 + 1)) then ((words_kind.f ((rd_T154 l0 (wrap64 (a1 + 1))).f0)).bind fun t304 => (some (t304 == t300))) else (none)) else (some false))) else (none)) else (none)) else (some false)) else (some false)))) else (some true)) = some r := H
   have A5 := Aside0.mk A50
   clear A50
   by_cases c6 : t298 = 0
   ·rw [if_pos c6] at H
    have c6b0 : (t298 == 0) = true := beq_iff_eq.mpr c6
    have c6b1 : (t298 != 0) = false := bne_eq_false_iff_eq.mpr c6
    clear c6
    replace H := Option.bind_eq_some_iff.mp H
    obtain ⟨t300, A70, H⟩ := H
    replace H : (if t300 = 0 then (some false) else (if a1 > 0 then (if (wrap64 (a1 + 1)) < (l0.length : Int) then (if 0 ≤ (wrap64 (a1 - 1)) then (if (wrap64 (a1 - 1)) < (l0.length : Int) then ((words_kind.f ((rd_T154 l0 (wrap64 (a1 - 1))).f0)).bind fun t302 => (if t302 = t300 then (if 0 ≤ (wrap64 (a1 + 1)) then ((words_kind.f ((rd_T154 l0 (wrap64 (a1 + 1))).f0)).bind fun t304 => (some (t304 == t300))) else (none)) else (some false))) else (none)) else (none)) else (some false)) else (some false))) = some r := H
    have A7 := Aside0.mk A70
    clear A70
    by_cases c8 : t300 = 0
    ·rw [if_pos c8] at H
     have c8b0 : (t300 == 0) = true := beq_iff_eq.mpr c8
     have c8b1 : (t300 != 0) = false := bne_eq_false_iff_eq.mpr c8
     clear c8
     obtain rfl := Option.some.inj H
     have p297 : 0 ≤ (a1 : Int) := of_decide_eq_true (by first | (with_reducible assumption) | assumption)
     have q297 : a1 < (l0.length : Int) := of_decide_eq_true (by first | (with_reducible assumption) | assumption)
     obtain ⟨ad297, e297, hx297_0, hx297_1, hx297_2⟩ := at_T154 HR0.out a1 p297 q297
     cases e297
     replace p297 := eq_true p297
     replace q297 := eq_true q297
     go_enter Tryz.func94, Tryz.ntmps94
     go_wp2_with (first | ((with_reducible refine gate_callee (f := 111) rfl ?_); refine goesL_ (some 11) rfl rfl Tryz.func111 (by kernel_rfl) rfl #[.string ((rd_T154 l0 a1).f0)] rfl (by (try simp only [List.map_toArray, List.map_cons, List.map_nil]); first | done | rfl | (simp only [List.length_drop, List.length_take]; rfl)) ?_; (with_reducible refine (words_kind.calls ((rd_T154 l0 a1).f0) t298 _ A5.out).mono ?_); rintro e w9 ⟨rfl, hb⟩; refine ⟨_, rfl, ?_⟩; have n0_ := Aside0.mk (below_step (by repeat (first | (with_reducible first | exact HB.out | apply below_alloc | apply pw_below_drewN | apply below_drew1) | exact HB.out)) hb); clear HB; have HB := n0_; clear n0_; (try clear hb); (try clear hb2); (try clear hk); (try clear hi); have p299 : 0 ≤ (a1 : Int) := of_decide_eq_true (by first | (with_reducible assumption) | assumption); have q299 : a1 < (l0.length : Int) := of_decide_eq_true (by first | (with_reducible assumption) | assumption); obtain ⟨ad299, e299, hx299_0, hx299_1, hx299_2⟩ := at_T154 HR0.out a1 p299 q299; obtain rfl : ad297 = ad299 := (by injection e299); replace hx299_0 := (HB.out.cell (World.block_lt_of_cell? w _ hx299_0)).trans hx299_0; replace hx299_1 := (HB.out.cell (World.block_lt_of_cell? w _ hx299_1)).trans hx299_1; replace hx299_2 := (HB.out.cell (World.block_lt_of_cell? w _ hx299_2)).trans hx299_2; replace p299 := eq_true p299; replace q299 := eq_true q299) | ((with_reducible refine gate_callee (f := 112) rfl ?_); refine goesL_ (some 18) rfl rfl Tryz.func112 (by kernel_rfl) rfl #[.string ((rd_T154 l0 a1).f0)] rfl (by (try simp only [List.map_toArray, List.map_cons, List.map_nil]); first | done | rfl | (simp only [List.length_drop, List.length_take]; rfl)) ?_; (with_reducible refine (words_joint.calls k ((rd_T154 l0 a1).f0) t300 _ A7.out).mono ?_); rintro e w' ⟨rfl, ⟨nd, rfl⟩⟩; refine ⟨_, rfl, ?_⟩))
     go_ret
     exact ⟨by first | rfl | (simp [errW_none, errW_some] <;> rfl) | (simp [*, errW_none, errW_some] <;> rfl), by repeat (first | (with_reducible first | exact HB.out | apply below_alloc | apply pw_below_drewN | apply below_drew1) | exact HB.out)⟩
    ·rw [if_neg c8] at H
     have c8b0 : (t300 == 0) = false := beq_eq_false_iff_ne.mpr c8
     have c8b1 : (t300 != 0) = true := bne_iff_ne.mpr c8
     by_cases c10 : a1 > 0
     ·rw [if_pos c10] at H
      have c10b0 : decide (0 < a1) = true := decide_eq_true c10
      clear c10
      by_cases c11 : (wrap64 (a1 + 1)) < (l0.length : Int)
      ·rw [if_pos c11] at H
       have c11b0 : decide ((wrap64 (a1 + 1)) < (l0.length : Int)) = true := decide_eq_true c11
       clear c11
       obtain ⟨ji12, hji12⟩ : ∃ j_ : Int, (wrap64 (a1 - 1)) = j_ := ⟨_, rfl⟩
       replace H : (if 0 ≤ (ji12) then (if (ji12) < (l0.length : Int) then ((words_kind.f ((rd_T154 l0 (ji12)).f0)).bind fun t302 => (if t302 = t300 then (if 0 ≤ (wrap64 (a1 + 1)) then ((words_kind.f ((rd_T154 l0 (wrap64 (a1 + 1))).f0)).bind fun t304 => (some (t304 == t300))) else (none)) else (some false))) else (none)) else (none)) = some r := by first | (rw [hji12] at H; exact H) | (simp only [hji12] at H ⊢; exact H)
       (try rw [hji12] at A5)
       (try rw [hji12] at A7)
       have hji12w : (IntKind.i64.wrap (a1 - 1)) = ji12 := (i64_w _).trans hji12
       by_cases c13 : 0 ≤ (ji12)
       ·rw [if_pos c13] at H
        have c13b0 : decide (0 ≤ (ji12)) = true := decide_eq_true c13
        clear c13
        by_cases c14 : (ji12) < (l0.length : Int)
        ·rw [if_pos c14] at H
         have c14b0 : decide ((ji12) < (l0.length : Int)) = true := decide_eq_true c14
         clear c14
         replace H := Option.bind_eq_some_iff.mp H
         obtain ⟨t302, A150, H⟩ := H
         replace H : (if t302 = t300 then (if 0 ≤ (wrap64 (a1 + 1)) then ((words_kind.f ((rd_T154 l0 (wrap64 (a1 + 1))).f0)).bind fun t304 => (some (t304 == t300))) else (none)) else (some false)) = some r := H
         have A15 := Aside0.mk A150
         clear A150
         by_cases c16 : t302 = t300
         ·rw [if_pos c16] at H
          have c16b0 : (t302 == t300) = true := beq_iff_eq.mpr c16
          have c16b1 : (t302 != t300) = false := bne_eq_false_iff_eq.mpr c16
          clear c16
          obtain ⟨ji17, hji17⟩ : ∃ j_ : Int, (wrap64 (a1 + 1)) = j_ := ⟨_, rfl⟩
          replace H : (if 0 ≤ (ji17) then ((words_kind.f ((rd_T154 l0 (ji17)).f0)).bind fun t304 => (some (t304 == t300))) else (none)) = some r := by first | (rw [hji17] at H; exact H) | (simp only [hji17] at H ⊢; exact H)
          (try rw [hji17] at c11b0)
          (try rw [hji17] at A5)
          (try rw [hji17] at A7)
          (try rw [hji17] at A15)
          have hji17w : (IntKind.i64.wrap (a1 + 1)) = ji17 := (i64_w _).trans hji17
          by_cases c18 : 0 ≤ (ji17)
          ·rw [if_pos c18] at H
           have c18b0 : decide (0 ≤ (ji17)) = true := decide_eq_true c18
           clear c18
           replace H := Option.bind_eq_some_iff.mp H
           obtain ⟨t304, A190, H⟩ := H
           replace H : (some (t304 == t300)) = some r := H
           have A19 := Aside0.mk A190
           clear A190
           obtain rfl := Option.some.inj H
           have p297 : 0 ≤ (a1 : Int) := of_decide_eq_true (by first | (with_reducible assumption) | assumption)
           have q297 : a1 < (l0.length : Int) := of_decide_eq_true (by first | (with_reducible assumption) | assumption)
           obtain ⟨ad297, e297, hx297_0, hx297_1, hx297_2⟩ := at_T154 HR0.out a1 p297 q297
           cases e297
           replace p297 := eq_true p297
           replace q297 := eq_true q297
           go_enter Tryz.func94, Tryz.ntmps94
           go_wp2_with (first | ((with_reducible refine gate_callee (f := 111) rfl ?_); refine goesL_ (some 11) rfl rfl Tryz.func111 (by kernel_rfl) rfl #[.string ((rd_T154 l0 a1).f0)] rfl (by (try simp only [List.map_toArray, List.map_cons, List.map_nil]); first | done | rfl | (simp only [List.length_drop, List.length_take]; rfl)) ?_; (with_reducible refine (words_kind.calls ((rd_T154 l0 a1).f0) t298 _ A5.out).mono ?_); rintro e w20 ⟨rfl, hb⟩; refine ⟨_, rfl, ?_⟩; have n0_ := Aside0.mk (below_step (by repeat (first | (with_reducible first | exact HB.out | apply below_alloc | apply pw_below_drewN | apply below_drew1) | exact HB.out)) hb); clear HB; have HB := n0_; clear n0_; (try clear hb); (try clear hb2); (try clear hk); (try clear hi); have p299 : 0 ≤ (a1 : Int) := of_decide_eq_true (by first | (with_reducible assumption) | assumption); have q299 : a1 < (l0.length : Int) := of_decide_eq_true (by first | (with_reducible assumption) | assumption); obtain ⟨ad299, e299, hx299_0, hx299_1, hx299_2⟩ := at_T154 HR0.out a1 p299 q299; obtain rfl : ad297 = ad299 := (by injection e299); replace hx299_0 := (HB.out.cell (World.block_lt_of_cell? w _ hx299_0)).trans hx299_0; replace hx299_1 := (HB.out.cell (World.block_lt_of_cell? w _ hx299_1)).trans hx299_1; replace hx299_2 := (HB.out.cell (World.block_lt_of_cell? w _ hx299_2)).trans hx299_2; replace p299 := eq_true p299; replace q299 := eq_true q299) | ((with_reducible refine gate_callee (f := 112) rfl ?_); refine goesL_ (some 18) rfl rfl Tryz.func112 (by kernel_rfl) rfl #[.string ((rd_T154 l0 a1).f0)] rfl (by (try simp only [List.map_toArray, List.map_cons, List.map_nil]); first | done | rfl | (simp only [List.length_drop, List.length_take]; rfl)) ?_; (with_reducible refine (words_joint.calls k ((rd_T154 l0 a1).f0) t300 _ A7.out).mono ?_); rintro e w' ⟨rfl, ⟨nd, rfl⟩⟩; refine ⟨_, rfl, ?_⟩; have p301 : 0 ≤ ((ji12) : Int) := of_decide_eq_true (by first | (with_reducible assumption) | assumption); have q301 : (ji12) < (l0.length : Int) := of_decide_eq_true (by first | (with_reducible assumption) | assumption); obtain ⟨ad301, e301, hx301_0, hx301_1, hx301_2⟩ := at_T154 HR0.out (ji12) p301 q301; obtain rfl : ad297 = ad301 := (by injection e301); replace hx301_0 := (HB.out.cell (World.block_lt_of_cell? w _ hx301_0)).trans hx301_0; replace hx301_1 := (HB.out.cell (World.block_lt_of_cell? w _ hx301_1)).trans hx301_1; replace hx301_2 := (HB.out.cell (World.block_lt_of_cell? w _ hx301_2)).trans hx301_2; replace p301 := eq_true p301; replace q301 := eq_true q301) | (go_at_call 111; (with_reducible refine (words_kind.calls ((rd_T154 l0 (ji12)).f0) t302 _ A15.out).mono ?_); rintro e w21 ⟨rfl, hb⟩; have n0_ := Aside0.mk (below_step (by repeat (first | (with_reducible first | exact HB.out | apply below_alloc | apply pw_below_drewN | apply below_drew1) | exact HB.out)) hb); clear HB; have HB := n0_; clear n0_; (try clear hb); (try clear hb2); (try clear hk); (try clear hi); have p303 : 0 ≤ ((ji17) : Int) := of_decide_eq_true (by first | (with_reducible assumption) | assumption); have q303 : (ji17) < (l0.length : Int) := of_decide_eq_true (by first | (with_reducible assumption) | assumption); obtain ⟨ad303, e303, hx303_0, hx303_1, hx303_2⟩ := at_T154 HR0.out (ji17) p303 q303; obtain rfl : ad297 = ad303 := (by injection e303); replace hx303_0 := (HB.out.cell (World.block_lt_of_cell? w _ hx303_0)).trans hx303_0; replace hx303_1 := (HB.out.cell (World.block_lt_of_cell? w _ hx303_1)).trans hx303_1; replace hx303_2 := (HB.out.cell (World.block_lt_of_cell? w _ hx303_2)).trans hx303_2; replace p303 := eq_true p303; replace q303 := eq_true q303) | (go_at_call 111; (with_reducible refine (words_kind.calls ((rd_T154 l0 (ji17)).f0) t304 _ A19.out).mono ?_); rintro e w22 ⟨rfl, hb⟩; have n0_ := Aside0.mk (below_step (by repeat (first | (with_reducible first | exact HB.out | apply below_alloc | apply pw_below_drewN | apply below_drew1) | exact HB.out)) hb); clear HB; have HB := n0_; clear n0_; (try clear hb); (try clear hb2); (try clear hk); (try clear hi)))
           go_ret
           exact ⟨by first | rfl | (simp [errW_none, errW_some] <;> rfl) | (simp only [← hji12, ← hji17]; first | rfl | (simp [errW_none, errW_some] <;> rfl)) | (simp [*, errW_none, errW_some] <;> rfl), by repeat (first | (with_reducible first | exact HB.out | apply below_alloc | apply pw_below_drewN | apply below_drew1) | exact HB.out)⟩
          ·rw [if_neg c18] at H
           exact absurd H (by simp)
         ·rw [if_neg c16] at H
          have c16b0 : (t302 == t300) = false := beq_eq_false_iff_ne.mpr c16
          have c16b1 : (t302 != t300) = true := bne_iff_ne.mpr c16
          obtain rfl := Option.some.inj H
          have p297 : 0 ≤ (a1 : Int) := of_decide_eq_true (by first | (with_reducible assumption) | assumption)
          have q297 : a1 < (l0.length : Int) := of_decide_eq_true (by first | (with_reducible assumption) | assumption)
          obtain ⟨ad297, e297, hx297_0, hx297_1, hx297_2⟩ := at_T154 HR0.out a1 p297 q297
          cases e297
          replace p297 := eq_true p297
          replace q297 := eq_true q297
          go_enter Tryz.func94, Tryz.ntmps94
          go_wp2_with (first | ((with_reducible refine gate_callee (f := 111) rfl ?_); refine goesL_ (some 11) rfl rfl Tryz.func111 (by kernel_rfl) rfl #[.string ((rd_T154 l0 a1).f0)] rfl (by (try simp only [List.map_toArray, List.map_cons, List.map_nil]); first | done | rfl | (simp only [List.length_drop, List.length_take]; rfl)) ?_; (with_reducible refine (words_kind.calls ((rd_T154 l0 a1).f0) t298 _ A5.out).mono ?_); rintro e w23 ⟨rfl, hb⟩; refine ⟨_, rfl, ?_⟩; have n0_ := Aside0.mk (below_step (by repeat (first | (with_reducible first | exact HB.out | apply below_alloc | apply pw_below_drewN | apply below_drew1) | exact HB.out)) hb); clear HB; have HB := n0_; clear n0_; (try clear hb); (try clear hb2); (try clear hk); (try clear hi); have p299 : 0 ≤ (a1 : Int) := of_decide_eq_true (by first | (with_reducible assumption) | assumption); have q299 : a1 < (l0.length : Int) := of_decide_eq_true (by first | (with_reducible assumption) | assumption); obtain ⟨ad299, e299, hx299_0, hx299_1, hx299_2⟩ := at_T154 HR0.out a1 p299 q299; obtain rfl : ad297 = ad299 := (by injection e299); replace hx299_0 := (HB.out.cell (World.block_lt_of_cell? w _ hx299_0)).trans hx299_0; replace hx299_1 := (HB.out.cell (World.block_lt_of_cell? w _ hx299_1)).trans hx299_1; replace hx299_2 := (HB.out.cell (World.block_lt_of_cell? w _ hx299_2)).trans hx299_2; replace p299 := eq_true p299; replace q299 := eq_true q299) | ((with_reducible refine gate_callee (f := 112) rfl ?_); refine goesL_ (some 18) rfl rfl Tryz.func112 (by kernel_rfl) rfl #[.string ((rd_T154 l0 a1).f0)] rfl (by (try simp only [List.map_toArray, List.map_cons, List.map_nil]); first | done | rfl | (simp only [List.length_drop, List.length_take]; rfl)) ?_; (with_reducible refine (words_joint.calls k ((rd_T154 l0 a1).f0) t300 _ A7.out).mono ?_); rintro e w' ⟨rfl, ⟨nd, rfl⟩⟩; refine ⟨_, rfl, ?_⟩; have p301 : 0 ≤ ((ji12) : Int) := of_decide_eq_true (by first | (with_reducible assumption) | assumption); have q301 : (ji12) < (l0.length : Int) := of_decide_eq_true (by first | (with_reducible assumption) | assumption); obtain ⟨ad301, e301, hx301_0, hx301_1, hx301_2⟩ := at_T154 HR0.out (ji12) p301 q301; obtain rfl : ad297 = ad301 := (by injection e301); replace hx301_0 := (HB.out.cell (World.block_lt_of_cell? w _ hx301_0)).trans hx301_0; replace hx301_1 := (HB.out.cell (World.block_lt_of_cell? w _ hx301_1)).trans hx301_1; replace hx301_2 := (HB.out.cell (World.block_lt_of_cell? w _ hx301_2)).trans hx301_2; replace p301 := eq_true p301; replace q301 := eq_true q301) | (go_at_call 111; (with_reducible refine (words_kind.calls ((rd_T154 l0 (ji12)).f0) t302 _ A15.out).mono ?_); rintro e w24 ⟨rfl, hb⟩; have n0_ := Aside0.mk (below_step (by repeat (first | (with_reducible first | exact HB.out | apply below_alloc | apply pw_below_drewN | apply below_drew1) | exact HB.out)) hb); clear HB; have HB := n0_; clear n0_; (try clear hb); (try clear hb2); (try clear hk); (try clear hi)))
          go_ret
          exact ⟨by first | rfl | (simp [errW_none, errW_some] <;> rfl) | (simp only [← hji12]; first | rfl | (simp [errW_none, errW_some] <;> rfl)) | (simp [*, errW_none, errW_some] <;> rfl), by repeat (first | (with_reducible first | exact HB.out | apply below_alloc | apply pw_below_drewN | apply below_drew1) | exact HB.out)⟩
        ·rw [if_neg c14] at H
         exact absurd H (by simp)
       ·rw [if_neg c13] at H
        exact absurd H (by simp)
      ·rw [if_neg c11] at H
       have c11b0 : decide ((wrap64 (a1 + 1)) < (l0.length : Int)) = false := decide_eq_false c11
       clear c11
       obtain rfl := Option.some.inj H
       have p297 : 0 ≤ (a1 : Int) := of_decide_eq_true (by first | (with_reducible assumption) | assumption)
       have q297 : a1 < (l0.length : Int) := of_decide_eq_true (by first | (with_reducible assumption) | assumption)
       obtain ⟨ad297, e297, hx297_0, hx297_1, hx297_2⟩ := at_T154 HR0.out a1 p297 q297
       cases e297
       replace p297 := eq_true p297
       replace q297 := eq_true q297
       go_enter Tryz.func94, Tryz.ntmps94
       go_wp2_with (first | ((with_reducible refine gate_callee (f := 111) rfl ?_); refine goesL_ (some 11) rfl rfl Tryz.func111 (by kernel_rfl) rfl #[.string ((rd_T154 l0 a1).f0)] rfl (by (try simp only [List.map_toArray, List.map_cons, List.map_nil]); first | done | rfl | (simp only [List.length_drop, List.length_take]; rfl)) ?_; (with_reducible refine (words_kind.calls ((rd_T154 l0 a1).f0) t298 _ A5.out).mono ?_); rintro e w25 ⟨rfl, hb⟩; refine ⟨_, rfl, ?_⟩; have n0_ := Aside0.mk (below_step (by repeat (first | (with_reducible first | exact HB.out | apply below_alloc | apply pw_below_drewN | apply below_drew1) | exact HB.out)) hb); clear HB; have HB := n0_; clear n0_; (try clear hb); (try clear hb2); (try clear hk); (try clear hi); have p299 : 0 ≤ (a1 : Int) := of_decide_eq_true (by first | (with_reducible assumption) | assumption); have q299 : a1 < (l0.length : Int) := of_decide_eq_true (by first | (with_reducible assumption) | assumption); obtain ⟨ad299, e299, hx299_0, hx299_1, hx299_2⟩ := at_T154 HR0.out a1 p299 q299; obtain rfl : ad297 = ad299 := (by injection e299); replace hx299_0 := (HB.out.cell (World.block_lt_of_cell? w _ hx299_0)).trans hx299_0; replace hx299_1 := (HB.out.cell (World.block_lt_of_cell? w _ hx299_1)).trans hx299_1; replace hx299_2 := (HB.out.cell (World.block_lt_of_cell? w _ hx299_2)).trans hx299_2; replace p299 := eq_true p299; replace q299 := eq_true q299) | ((with_reducible refine gate_callee (f := 112) rfl ?_); refine goesL_ (some 18) rfl rfl Tryz.func112 (by kernel_rfl) rfl #[.string ((rd_T154 l0 a1).f0)] rfl (by (try simp only [List.map_toArray, List.map_cons, List.map_nil]); first | done | rfl | (simp only [List.length_drop, List.length_take]; rfl)) ?_; (with_reducible refine (words_joint.calls k ((rd_T154 l0 a1).f0) t300 _ A7.out).mono ?_); rintro e w' ⟨rfl, ⟨nd, rfl⟩⟩; refine ⟨_, rfl, ?_⟩))
       go_ret
       exact ⟨by first | rfl | (simp [errW_none, errW_some] <;> rfl) | (simp [*, errW_none, errW_some] <;> rfl), by repeat (first | (with_reducible first | exact HB.out | apply below_alloc | apply pw_below_drewN | apply below_drew1) | exact HB.out)⟩
     ·rw [if_neg c10] at H
      have c10b0 : decide (0 < a1) = false := decide_eq_false c10
      clear c10
      obtain rfl := Option.some.inj H
      have p297 : 0 ≤ (a1 : Int) := of_decide_eq_true (by first | (with_reducible assumption) | assumption)
      have q297 : a1 < (l0.length : Int) := of_decide_eq_true (by first | (with_reducible assumption) | assumption)
      obtain ⟨ad297, e297, hx297_0, hx297_1, hx297_2⟩ := at_T154 HR0.out a1 p297 q297
      cases e297
      replace p297 := eq_true p297
      replace q297 := eq_true q297
      go_enter Tryz.func94, Tryz.ntmps94
      go_wp2_with (first | ((with_reducible refine gate_callee (f := 111) rfl ?_); refine goesL_ (some 11) rfl rfl Tryz.func111 (by kernel_rfl) rfl #[.string ((rd_T154 l0 a1).f0)] rfl (by (try simp only [List.map_toArray, List.map_cons, List.map_nil]); first | done | rfl | (simp only [List.length_drop, List.length_take]; rfl)) ?_; (with_reducible refine (words_kind.calls ((rd_T154 l0 a1).f0) t298 _ A5.out).mono ?_); rintro e w26 ⟨rfl, hb⟩; refine ⟨_, rfl, ?_⟩; have n0_ := Aside0.mk (below_step (by repeat (first | (with_reducible first | exact HB.out | apply below_alloc | apply pw_below_drewN | apply below_drew1) | exact HB.out)) hb); clear HB; have HB := n0_; clear n0_; (try clear hb); (try clear hb2); (try clear hk); (try clear hi); have p299 : 0 ≤ (a1 : Int) := of_decide_eq_true (by first | (with_reducible assumption) | assumption); have q299 : a1 < (l0.length : Int) := of_decide_eq_true (by first | (with_reducible assumption) | assumption); obtain ⟨ad299, e299, hx299_0, hx299_1, hx299_2⟩ := at_T154 HR0.out a1 p299 q299; obtain rfl : ad297 = ad299 := (by injection e299); replace hx299_0 := (HB.out.cell (World.block_lt_of_cell? w _ hx299_0)).trans hx299_0; replace hx299_1 := (HB.out.cell (World.block_lt_of_cell? w _ hx299_1)).trans hx299_1; replace hx299_2 := (HB.out.cell (World.block_lt_of_cell? w _ hx299_2)).trans hx299_2; replace p299 := eq_true p299; replace q299 := eq_true q299) | ((with_reducible refine gate_callee (f := 112) rfl ?_); refine goesL_ (some 18) rfl rfl Tryz.func112 (by kernel_rfl) rfl #[.string ((rd_T154 l0 a1).f0)] rfl (by (try simp only [List.map_toArray, List.map_cons, List.map_nil]); first | done | rfl | (simp only [List.length_drop, List.length_take]; rfl)) ?_; (with_reducible refine (words_joint.calls k ((rd_T154 l0 a1).f0) t300 _ A7.out).mono ?_); rintro e w' ⟨rfl, ⟨nd, rfl⟩⟩; refine ⟨_, rfl, ?_⟩))
      go_ret
      exact ⟨by first | rfl | (simp [errW_none, errW_some] <;> rfl) | (simp [*, errW_none, errW_some] <;> rfl), by repeat (first | (with_reducible first | exact HB.out | apply below_alloc | apply pw_below_drewN | apply below_drew1) | exact HB.out)⟩
   ·rw [if_neg c6] at H
    have c6b0 : (t298 == 0) = false := beq_eq_false_iff_ne.mpr c6
    have c6b1 : (t298 != 0) = true := bne_iff_ne.mpr c6
    obtain rfl := Option.some.inj H
    have p297 : 0 ≤ (a1 : Int) := of_decide_eq_true (by first | (with_reducible assumption) | assumption)
    have q297 : a1 < (l0.length : Int) := of_decide_eq_true (by first | (with_reducible assumption) | assumption)
    obtain ⟨ad297, e297, hx297_0, hx297_1, hx297_2⟩ := at_T154 HR0.out a1 p297 q297
    cases e297
    replace p297 := eq_true p297
    replace q297 := eq_true q297
    go_enter Tryz.func94, Tryz.ntmps94
    go_wp2_with (first | ((with_reducible refine gate_callee (f := 111) rfl ?_); refine goesL_ (some 11) rfl rfl Tryz.func111 (by kernel_rfl) rfl #[.string ((rd_T154 l0 a1).f0)] rfl (by (try simp only [List.map_toArray, List.map_cons, List.map_nil]); first | done | rfl | (simp only [List.length_drop, List.length_take]; rfl)) ?_; (with_reducible refine (words_kind.calls ((rd_T154 l0 a1).f0) t298 _ A5.out).mono ?_); rintro e w27 ⟨rfl, hb⟩; refine ⟨_, rfl, ?_⟩; have n0_ := Aside0.mk (below_step (by repeat (first | (with_reducible first | exact HB.out | apply below_alloc | apply pw_below_drewN | apply below_drew1) | exact HB.out)) hb); clear HB; have HB := n0_; clear n0_; (try clear hb); (try clear hb2); (try clear hk); (try clear hi)))
    go_ret
    exact ⟨by first | rfl | (simp [errW_none, errW_some] <;> rfl) | (simp [*, errW_none, errW_some] <;> rfl), by repeat (first | (with_reducible first | exact HB.out | apply below_alloc | apply pw_below_drewN | apply below_drew1) | exact HB.out)⟩
  ·rw [if_neg c4] at H
   exact absurd H (by simp)
 ·rw [if_neg c3] at H
  exact absurd H (by simp)
end Go.Proofs.YtdambnclbpipdaaGreatDoor.X
namespace Go.Proofs.YtdambnclbpipdaaGreatDoor.Wd
set_option linter.unusedVariables false
set_option linter.unusedSimpArgs false
open Go.Proofs.YtdambnclbpipdaaGreatDoor.Ux (Bytes full)
open Go.Proofs.YtdambnclbpipdaaGreatDoor.Vb (cat)
open Go.Proofs.YtdambnclbpipdaaGreatDoor.Vef (foldU)
open Go.Proofs.YtdambnclbpipdaaGreatDoor.Ot (rns)
open Go.Proofs.YtdambnclbpipdaaGreatDoor.En (enc)
open Go.RowKit Go.Proofs.YtdambnclbpipdaaGreatDoorW.PrintWords Go.Proofs.YtdambnclbpipdaaGreatDoor.Ev0 Go.Proofs.YtdambnclbpipdaaGreatDoor.X Go.Proofs.YtdambnclbpipdaaGreatDoor.Oa Go.Proofs.YtdambnclbpipdaaGreatDoor.Ob Go.Proofs.YtdambnclbpipdaaGreatDoor.Vp0 Go.Proofs.YtdambnclbpipdaaGreatDoor.Sga Go.Proofs.YtdambnclbpipdaaGreatDoor.Sgb Go.Proofs.YtdambnclbpipdaaGreatDoor.Sgp Go.Proofs.YtdambnclbpipdaaGreatDoor.Sgq Go.Proofs.YtdambnclbpipdaaGreatDoor.Sgu Go.Proofs.YtdambnclbpipdaaGreatDoor.Sgv Go.Proofs.YtdambnclbpipdaaGreatDoor.Sgw Go.Proofs.YtdambnclbpipdaaGreatDoor.Wa Go.Proofs.YtdambnclbpipdaaGreatDoor.Wb
theorem runesS (s : ByteArray) (hs : s.size ≤ 1000000000) : norm_Runes.f s = some (rns (bytesOf s)) := by
  unfold norm_Runes.f runesOf
  rw [if_pos hs]
  rfl
theorem fl2_app (a b : List Int) : fl2 (a ++ b) = fl2 a ++ fl2 b := List.flatMap_append ..
theorem fl2_succ (L : List Int) (i : Nat) (h : i < L.length) : fl2 (L.take (i + 1)) = fl2 (L.take i) ++ foldU L[i] := by
  rw [List.take_succ_eq_append_getElem h, fl2_app]
  simp [fl2]
theorem fl2_take (L : List Int) (i : Nat) : (fl2 (L.take i)).length ≤ (fl2 L).length := by
  have : fl2 L = fl2 (L.take i) ++ fl2 (L.drop i) := by rw [← fl2_app, List.take_append_drop]
  rw [this, List.length_append]
  omega
theorem keyEv (b : List Int) (hB : Bytes b) (hl : b.length ≤ 1000000000) (h1 : (rns b).length ≤ 100000000) (h2 : (fl2 (nrm (rns b))).length ≤ 100000000) : Ev (fun k => words_Key.f k b) (keyS b) := by
  have h32 := r32 b hB
  have hS : norm_Runes.f (strOfNums b) = some (rns b) := by rw [runesS _ (by rw [str_size hB]; exact hl), Ot.bytes_str b hB]
  unfold words_Key.f
  rw [hS]
  simp only [Option.bind_some]
  refine Ev.bind (normEv (rns b) h32 h1) ?_
  have hn3 := nrm_len3 (rns b) h32
  have hL32 := nrm_32 (rns b) h32
  obtain ⟨L, hL⟩ : ∃ L, L = nrm (rns b) := ⟨_, rfl⟩
  have hK : keyS b = strOfNums (enc (nrm (fl2 L))) := by rw [hL]; rfl
  rw [hK]
  rw [← hL] at h2 hL32 hn3 ⊢
  clear hK hL hS
  have hF3 := nrm_len3 (fl2 L) (fl2_32 L hL32)
  have key : ∀ q i : Nat, i + q = L.length → Ev (fun k => words_Key.l0 k (fl2 (L.take i)) L (L.length : Int) (i : Int)) (strOfNums (enc (nrm (fl2 L)))) := by
    intro q
    induction q with
    | zero =>
      intro i hi
      obtain rfl : i = L.length := hi
      refine Ev.step (fun k => words_Key.l0.eq_2 ..) ?_
      simp only [if_neg (Int.lt_irrefl _), List.take_length]
      refine Ev.bind (normEv _ (fl2_32 L hL32) h2) ?_
      exact Ev.bind (Ev.of (utf_Encode.mono _) (En.enc_pure _ (by omega))) (Ev.now _)
    | succ q ih =>
      intro i hi
      have hil : i < L.length := by omega
      have ih := ih (i + 1) (by omega)
      have hsz := fl2_take L (i + 1)
      rw [fl2_succ L i hil] at ih hsz
      rw [List.length_append] at hsz
      refine Ev.step (fun k => words_Key.l0.eq_2 ..) ?_
      simp only [if_pos (show (i : Int) < (L.length : Int) by omega), if_pos (show (0 : Int) ≤ (i : Int) by omega), rd_nat hil]
      refine Ev.bind (Vp.foldEv L[i]) ?_
      rw [w64 (i := i) (by omega)]
      simp only [if_pos (show (fl2 (L.take i)).length + (foldU L[i]).length < 35184372088832 by omega)]
      exact ih
  exact key L.length 0 (by omega)
theorem kind_some (s : ByteArray) (hs : s.size ≤ 1000000000) : words_kind.f s = some (kindF s) := by
  unfold words_kind.f
  rw [runesS s hs]
  unfold kindF
  cases rns (bytesOf s) with
  | nil => rfl
  | cons x t =>
    have e1 : ¬ (((x :: t).length : Int) = 0) := by simp only [List.length_cons]; omega
    have e2 : (0 : Int) < ((x :: t).length : Int) := by simp only [List.length_cons]; omega
    have e3 : rd (x :: t) 0 = x := rfl
    simp only [Option.bind_some, if_neg e1, if_pos e2, e3, ucd_Category.f, kindU]
    repeat' split
    all_goals rfl
theorem t39 : (ByteArray.toList ⟨#[39]⟩) = [39] := Sgr.ba_data _
theorem tA : (ByteArray.toList ⟨#[226, 128, 153]⟩) = [226, 128, 153] := Sgr.ba_data _
theorem tB : (ByteArray.toList ⟨#[194, 183]⟩) = [194, 183] := Sgr.ba_data _
theorem t46 : (ByteArray.toList ⟨#[46]⟩) = [46] := Sgr.ba_data _
theorem t44 : (ByteArray.toList ⟨#[44]⟩) = [44] := Sgr.ba_data _
theorem jointEv (s : ByteArray) : Ev (fun k => words_joint.f k s) (jointF s) := by
  have b1 := Sgr.ba_list s ⟨#[39]⟩
  have b2 := Sgr.ba_list s ⟨#[226, 128, 153]⟩
  have b3 := Sgr.ba_list s ⟨#[194, 183]⟩
  have b4 := Sgr.ba_list s ⟨#[46]⟩
  have b5 := Sgr.ba_list s ⟨#[44]⟩
  rw [t39] at b1
  rw [tA] at b2
  rw [tB] at b3
  rw [t46] at b4
  rw [t44] at b5
  unfold words_joint.f
  by_cases h1 : s.toList = [39]
  · have e : jointF s = 1 := by unfold jointF; rw [if_pos (.inl (b1.1 h1))]
    simp only [if_pos h1, beq_iff_eq.2 h1, e]
    refine Ev.step (fun k => words_joint.j0.eq_2 ..) ?_
    simp only [if_true]
    exact Ev.now _
  · simp only [if_neg h1]
    by_cases h2 : s.toList = [226, 128, 153]
    · have e : jointF s = 1 := by unfold jointF; rw [if_pos (.inr (.inl (b2.1 h2)))]
      simp only [if_pos h2, beq_iff_eq.2 h2, e]
      refine Ev.step (fun k => words_joint.j0.eq_2 ..) ?_
      simp only [if_true]
      exact Ev.now _
    · simp only [if_neg h2]
      by_cases h3 : s.toList = [194, 183]
      · have e : jointF s = 1 := by unfold jointF; rw [if_pos (.inr (.inr (b3.1 h3)))]
        simp only [beq_iff_eq.2 h3, e]
        refine Ev.step (fun k => words_joint.j0.eq_2 ..) ?_
        simp only [if_true]
        exact Ev.now _
      · have hn : ¬ (s = ⟨#[39]⟩ ∨ s = ⟨#[226, 128, 153]⟩ ∨ s = ⟨#[194, 183]⟩) := by
          rintro (h | h | h)
          · exact h1 (b1.2 h)
          · exact h2 (b2.2 h)
          · exact h3 (b3.2 h)
        simp only [beq_eq_false_iff_ne.2 h3]
        refine Ev.step (fun k => words_joint.j0.eq_2 ..) ?_
        simp only [Bool.false_eq_true, if_false]
        unfold jointF
        rw [if_neg hn]
        by_cases h4 : s.toList = [46]
        · simp only [if_pos h4, if_pos (show s = ⟨#[46]⟩ ∨ s = ⟨#[44]⟩ from .inl (b4.1 h4))]
          exact Ev.now _
        · simp only [if_neg h4]
          by_cases h5 : s.toList = [44]
          · simp only [if_pos h5, if_pos (show s = ⟨#[46]⟩ ∨ s = ⟨#[44]⟩ from .inr (b5.1 h5))]
            exact Ev.now _
          · simp only [if_neg h5, if_neg (show ¬ (s = ⟨#[46]⟩ ∨ s = ⟨#[44]⟩) from fun h => h.elim (fun h => h4 (b4.2 h)) (fun h => h5 (b5.2 h)))]
            exact Ev.now _
theorem T_map (l : List SG) (i : Nat) (h : i < l.length) : T (l.map (·.f0)) i = l[i].f0 := by
  unfold T
  simp [List.getD_eq_getElem?_getD, List.getElem?_eq_getElem h]
theorem withinEv (l : List SG) (hs : ∀ s ∈ l, s.f0.size ≤ 1000000000) (hl : l.length ≤ 100000000) (i : Nat) (hi : i < l.length) : Ev (fun k => words_within.f k l (i : Int)) (inW (l.map (·.f0)) i) := by
  have ki := fun j (h : j < l.length) => kind_some l[j].f0 (hs _ (List.getElem_mem h))
  unfold words_within.f inW
  simp only [if_pos (show (0 : Int) ≤ (i : Int) by omega), if_pos (show (i : Int) < (l.length : Int) by omega), rdG hi, ki i hi, Option.bind_some, T_map l i hi]
  by_cases h0 : kindF l[i].f0 = 0
  · simp only [if_pos h0, h0]
    refine Ev.bind (jointEv l[i].f0) ?_
    obtain ⟨j, hj⟩ : ∃ j, j = jointF l[i].f0 := ⟨_, rfl⟩
    rw [← hj]
    by_cases hj0 : j = 0
    · simp only [if_pos hj0, hj0]
      exact Ev.now _
    · simp only [if_neg hj0, w64 (i := i) (by omega)]
      by_cases hip : 0 < i
      · have e1 : (i : Int) > 0 := by omega
        simp only [if_pos e1, List.length_map, decide_eq_true hip]
        by_cases hin : i + 1 < l.length
        · have e2 : wrap64 ((i : Int) - 1) = ((i - 1 : Nat) : Int) := w64d hip (by omega)
          simp only [if_pos (show ((i + 1 : Nat) : Int) < (l.length : Int) by omega), e2, if_pos (show (0 : Int) ≤ ((i - 1 : Nat) : Int) by omega), if_pos (show ((i - 1 : Nat) : Int) < (l.length : Int) by omega), rdG (show i - 1 < l.length by omega), ki (i - 1) (by omega), Option.bind_some, T_map l (i - 1) (by omega), T_map l (i + 1) hin, decide_eq_true hin]
          by_cases hk : kindF l[i - 1].f0 = j
          · simp only [if_pos hk, if_pos (show (0 : Int) ≤ ((i + 1 : Nat) : Int) by omega), rdG hin, ki (i + 1) hin, Option.bind_some, decide_eq_true hk]
            have e3 : (kindF l[i + 1].f0 == j) = decide (kindF l[i + 1].f0 = j) := rfl
            rw [e3]
            simp [hj0]
            exact Ev.now _
          · simp only [if_neg hk, decide_eq_false hk]
            simp
            exact Ev.now _
        · simp only [if_neg (show ¬ ((i + 1 : Nat) : Int) < (l.length : Int) by omega), decide_eq_false hin]
          simp
          exact Ev.now _
      · have e1 : ¬ (i : Int) > 0 := by omega
        simp only [if_neg e1, decide_eq_false hip]
        simp
        exact Ev.now _
  · simp only [if_neg h0]
    simp [h0]
    exact Ev.now _
abbrev SW := S47
end Go.Proofs.YtdambnclbpipdaaGreatDoor.Wd
namespace Go.Proofs.YtdambnclbpipdaaGreatDoor.Wg
set_option linter.unusedVariables false
set_option linter.unusedSimpArgs false
open Go.Proofs.YtdambnclbpipdaaGreatDoor.Ux (Bytes full)
open Go.Proofs.YtdambnclbpipdaaGreatDoor.Ot (rns)
open Go.Proofs.YtdambnclbpipdaaGreatDoor.En (enc)
open Go.RowKit Go.Proofs.YtdambnclbpipdaaGreatDoorW.PrintWords Go.Proofs.YtdambnclbpipdaaGreatDoor.Ev0 Go.Proofs.YtdambnclbpipdaaGreatDoor.X Go.Proofs.YtdambnclbpipdaaGreatDoor.Oa Go.Proofs.YtdambnclbpipdaaGreatDoor.Vp0 Go.Proofs.YtdambnclbpipdaaGreatDoor.Sga Go.Proofs.YtdambnclbpipdaaGreatDoor.Sgb Go.Proofs.YtdambnclbpipdaaGreatDoor.Sgp Go.Proofs.YtdambnclbpipdaaGreatDoor.Sgq Go.Proofs.YtdambnclbpipdaaGreatDoor.Sgv Go.Proofs.YtdambnclbpipdaaGreatDoor.Sgw Go.Proofs.YtdambnclbpipdaaGreatDoor.Wa Go.Proofs.YtdambnclbpipdaaGreatDoor.Wb Go.Proofs.YtdambnclbpipdaaGreatDoor.Wd
def gAt (l : List SG) (i : Nat) : SG := l.getD i z154
theorem gAt_eq {l : List SG} {i : Nat} (h : i < l.length) : gAt l i = l[i] := by unfold gAt; simp [List.getD_eq_getElem?_getD, List.getElem?_eq_getElem h]
def wordOf (l : List SG) (p : Nat × Nat) : SW := ⟨keyR (l.map (·.f0)) p.1 p.2, ⟨p.1, p.2, (gAt l p.1).f1, (gAt l (p.2 - 1)).f2⟩⟩
def wordsF (l : List SG) : List SW := (runsT (l.map (·.f0))).map (wordOf l)
def sizes : List ByteArray → Nat
  | [] => 0
  | x :: t => x.size + sizes t
theorem sizes_app : ∀ a b : List ByteArray, sizes (a ++ b) = sizes a + sizes b
  | [], b => by simp [sizes]
  | x :: a, b => by rw [List.cons_append, sizes, sizes, sizes_app a b, Nat.add_assoc]
theorem sizes_mem : ∀ (l : List ByteArray) (x : ByteArray), x ∈ l → x.size ≤ sizes l
  | y :: t, x, h => by
    rw [sizes]
    rcases List.mem_cons.1 h with rfl | h
    · omega
    · have := sizes_mem t x h; omega
theorem catB_size : ∀ l : List ByteArray, (catB l).size = sizes l
  | [] => rfl
  | x :: t => by
    have := catB_size t
    rw [sizes, catB, ByteArray.size_append, this]
theorem catB_snoc : ∀ (l : List ByteArray) (x : ByteArray), catB (l ++ [x]) = catB l ++ x
  | [], x => by
    refine ba_ext ?_
    show (x ++ (⟨#[]⟩ : ByteArray)).data.toList = ((⟨#[]⟩ : ByteArray) ++ x).data.toList
    rw [ba_app, ba_app]
    simp
  | y :: l, x => by
    rw [List.cons_append, catB, catB, catB_snoc l x]
    refine ba_ext ?_
    rw [ba_app, ba_app, ba_app, ba_app, List.append_assoc]
theorem catR_self (l : List ByteArray) (f : Nat) : catR l f f = ⟨#[]⟩ := by unfold catR; rw [List.drop_eq_nil_of_le (by rw [List.length_take]; omega)]; rfl
theorem catR_succ (l : List ByteArray) (f t : Nat) (h : f ≤ t) (ht : t < l.length) : catR l f (t + 1) = catR l f t ++ l[t] := by
  unfold catR
  rw [List.take_succ_eq_append_getElem ht, List.drop_append_of_le_length (by rw [List.length_take]; omega), catB_snoc]
theorem catR_size (l : List ByteArray) (f t : Nat) : (catR l f t).size ≤ sizes l := by
  unfold catR
  rw [catB_size]
  have h1 : sizes l = sizes (l.take t) + sizes (l.drop t) := by rw [← sizes_app, List.take_append_drop]
  have h2 : sizes (l.take t) = sizes ((l.take t).take f) + sizes ((l.take t).drop f) := by rw [← sizes_app, List.take_append_drop]
  omega
theorem keyS_ev (b : List Int) (hB : Bytes b) (hl : b.length ≤ 16000000) : Ev (fun k => words_Key.f k b) (keyS b) := by
  have h1 := Sgu.rns_len b
  have h2 := nrm_len3 (rns b) (r32 b hB)
  have h3 := fl2_len (nrm (rns b))
  exact keyEv b hB (by omega) (by omega) (by omega)
def inR (K : Int) (mid : Bool) (P N : Int) : Bool := if K > 3 ∧ mid = true then decide (P = K - 3) && decide (N = K - 3) else decide (1 ≤ K) && decide (K ≤ 3)
end Go.Proofs.YtdambnclbpipdaaGreatDoor.Wg
namespace Go.Proofs.YtdambnclbpipdaaGreatDoor.Wj
set_option linter.unusedVariables false
set_option linter.unusedSimpArgs false
open Go.Proofs.YtdambnclbpipdaaGreatDoor.Ux (Bytes full)
open Go.Proofs.YtdambnclbpipdaaGreatDoor.Ot (rns)
open Go.RowKit Go.Proofs.YtdambnclbpipdaaGreatDoorW.PrintWords Go.Proofs.YtdambnclbpipdaaGreatDoor.Hp Go.Proofs.YtdambnclbpipdaaGreatDoor.Fm Go.Proofs.YtdambnclbpipdaaGreatDoor.X Go.Proofs.YtdambnclbpipdaaGreatDoor.Va Go.Proofs.YtdambnclbpipdaaGreatDoor.Oa Go.Proofs.YtdambnclbpipdaaGreatDoor.Vp0 Go.Proofs.YtdambnclbpipdaaGreatDoor.Sga Go.Proofs.YtdambnclbpipdaaGreatDoor.Sgb Go.Proofs.YtdambnclbpipdaaGreatDoor.Sgd Go.Proofs.YtdambnclbpipdaaGreatDoor.Sgp Go.Proofs.YtdambnclbpipdaaGreatDoor.Sgv Go.Proofs.YtdambnclbpipdaaGreatDoor.Wa Go.Proofs.YtdambnclbpipdaaGreatDoor.Wb Go.Proofs.YtdambnclbpipdaaGreatDoor.Wd Go.Proofs.YtdambnclbpipdaaGreatDoor.Wg
abbrev kW := k47
abbrev TW : Nat := 47
theorem infoWd : (Tryz.prog.info? 47).map (fun i => (i.zero, i.size, i.bytes)) = some (some (.agg #[.string ⟨#[]⟩, .int .i64 0, .int .i64 0, .int .i64 0, .int .i64 0]), 5, 48) := by kernel_rfl
theorem kW_KM {w w' : World} {base : Nat} {ok : Nat → Prop} (x : SW) (cs : List Value) (h : kW.K w x cs) : kW.M w' base ok x cs := by
  obtain rfl := k47_open h
  exact k47_mkM _ _ _ _
def PJ (l : List SG) (i : Nat) (st : Option Nat) (out : List SW) : Prop := out ++ (runs (inW (l.map (·.f0))) (l.length - i) i st).map (wordOf l) = wordsF l
theorem PJ_start (l : List SG) : PJ l 0 none [] := by unfold PJ wordsF runsT; simp
theorem PJ_skip {l : List SG} {i : Nat} {out : List SW} (h : PJ l i none out) (hi : i < l.length) (hf : inW (l.map (·.f0)) i = false) : PJ l (i + 1) none out := by
  unfold PJ at h ⊢
  rw [show l.length - i = (l.length - (i + 1)) + 1 by omega, runs, hf, if_neg (by decide)] at h
  exact h
theorem PJ_open {l : List SG} {i : Nat} {out : List SW} (h : PJ l i none out) (hi : i < l.length) (hf : inW (l.map (·.f0)) i = true) : PJ l i (some i) out := by
  unfold PJ at h ⊢
  rw [show l.length - i = (l.length - (i + 1)) + 1 by omega] at h ⊢
  rw [runs, if_pos hf] at h
  show out ++ (if inW (l.map (·.f0)) i = true then runs (inW (l.map (·.f0))) (l.length - (i + 1)) (i + 1) (some i) else (i, i) :: runs (inW (l.map (·.f0))) (l.length - (i + 1)) (i + 1) none).map (wordOf l) = _
  rw [if_pos hf]
  exact h
theorem PJ_step {l : List SG} {i f : Nat} {out : List SW} (h : PJ l i (some f) out) (hi : i < l.length) (hf : inW (l.map (·.f0)) i = true) : PJ l (i + 1) (some f) out := by
  unfold PJ at h ⊢
  rw [show l.length - i = (l.length - (i + 1)) + 1 by omega, runs, if_pos hf] at h
  exact h
theorem PJ_close {l : List SG} {i f : Nat} {out : List SW} (h : PJ l i (some f) out) (hi : i ≤ l.length) (hf : i < l.length → inW (l.map (·.f0)) i = false) : PJ l (i + 1) none (out ++ [wordOf l (f, i)]) := by
  unfold PJ at h ⊢
  by_cases hlt : i < l.length
  · rw [show l.length - i = (l.length - (i + 1)) + 1 by omega, runs, hf hlt, if_neg (by decide), List.map_cons] at h
    rw [List.append_assoc]
    exact h
  · rw [show l.length - i = 0 by omega, runs] at h
    rw [show l.length - (i + 1) = 0 by omega, runs, List.map_nil, List.append_nil]
    exact h
theorem PJ_end {l : List SG} {i : Nat} {out : List SW} (h : PJ l i none out) (hi : l.length ≤ i) : out = wordsF l := by
  unfold PJ at h
  rw [show l.length - i = 0 by omega, runs, List.map_nil, List.append_nil] at h
  exact h
theorem PJ_len {l : List SG} {i : Nat} {st : Option Nat} {out : List SW} (h : PJ l i st out) : out.length ≤ l.length := by
  have h2 := congrArg List.length h
  rw [List.length_append] at h2
  have h3 := (runs_len (inW (l.map (·.f0))) (l.map (·.f0)).length 0).1
  have h4 : (wordsF l).length ≤ l.length := by unfold wordsF runsT; rw [List.length_map]; rw [List.length_map] at h3 ⊢; exact h3
  omega
theorem post_of2 {w w' : World} {L : List Th} (h : Sep w L w') (i : Nat) {v : Value} {l : List SW} (hi : L[i]? = some (rowT kW TW w.heap.size v l)) : kW.R TW w' w.heap.size (fun _ => True) v l := by
  obtain ⟨ok, h1⟩ := h.one i _ hi
  exact Kd.R_mono h1 (fun _ _ => trivial)
theorem KeyR (w : World) (hG : G w) (t : ByteArray) (hs : t.size ≤ 16000000) (A : Option Addr) (n c : Nat) (hC : KB.C w A n (bytesOf t)) (hn : n = (bytesOf t).length) (hc : n ≤ c) :
    Calls Tryz.prog 95 #[.slice A n c] w fun e w' => e = .returned (.string (keyS (bytesOf t))) ∧ Below w.heap.size w w' := by
  subst hn
  obtain ⟨k, hk⟩ := Ev.rounds (keyS_ev (bytesOf t) (bytesOf_Bytes t) (by rw [bytesOf_length]; exact hs))
  exact words_Key.calls k A c (bytesOf t) _ w hC hc hk hG
set_option maxRecDepth 100000 in
set_option maxHeartbeats 8000000 in
theorem JoinP (w : World) (hG : G w) (A : Option Addr) (n c : Nat) (l : List SG) (hC : kG.C w A n l) (hn : n = l.length) (hc : n ≤ c) (hs : sizes (l.map (·.f0)) ≤ 13000000) (hl : n ≤ 13000000) :
    Calls Tryz.prog 78 #[.slice A n c] w fun e w' => ∃ v, e = .returned v ∧ kW.R TW w' w.heap.size (fun _ => True) v (wordsF l) ∧ Below w.heap.size w w' := by
  have HW := Aside0.mk (show ∀ (W : World), Below w.heap.size w W → ∀ j, j < n → Calls Tryz.prog 94 #[.slice A n c, .int .i64 (j : Int)] W (fun e w' => e = .returned (.bool (inW (l.map (·.f0)) j)) ∧ Below W.heap.size W w') from fun W hW j hj => by
    subst hn
    obtain ⟨k, hk⟩ := Ev.rounds (withinEv l (fun s hs2 => by have := sizes_mem _ _ (List.mem_map_of_mem (f := (·.f0)) hs2); omega) (by omega) j hj)
    exact words_within.calls k A c l j _ W (Kd.C_below hC hW) hc hk)
  have HN := Aside0.mk hn
  have HC := Aside0.mk hC
  have HG := Aside0.mk hG
  have HSZ := Aside0.mk hs
  clear hC hn hG
  go_enter Tryz.func78, Tryz.ntmps78
  go_wp2
  go_loopw [3, 4] (fun lv iv wr => ∃ (i : Nat) (out : List SW), iv = .int .i64 i ∧ Aside0 (i ≤ n + 1 ∧ PJ l i none out) ∧ Aside0 (Sep w [rowT kW TW w.heap.size lv out] wr)) (fun _ iv _ => n + 1 - (intOf iv).toNat)
  case atStart => exact ⟨0, [], rfl, ⟨by omega, PJ_start l⟩, ⟨(Sep.nil w).empty kW TW w.heap.size⟩⟩
  case round =>
    obtain ⟨i, out, rfl, HP, HS⟩ := hrel
    by_cases hlt : i < n
    · have hd : decide ((i : Int) < (n : Int)) = true := decide_eq_true (by omega)
      have hd' : decide (i < n) = true := decide_eq_true hlt
      cases hin : inW (l.map (·.f0)) i with
      | false =>
        have HI := Aside0.mk hin
        clear hin
        go_wp2_with (go_at_call 94; go_must (refine (HW.out wr HS.out.below i hlt).mono ?_; rw [HI.out]; rintro E w2 ⟨rfl, p1⟩; have HS2 := Aside0.mk (HS.out.later p1); clear p1))
        go_roundw
        case rel => exact ⟨i + 1, out, by go_num, ⟨by omega, PJ_skip HP.out.2 (by rw [← HN.out]; exact hlt) HI.out⟩, HS2⟩
        case measure => simp [intOf]; omega
      | true =>
        have HI := Aside0.mk hin
        clear hin
        go_wp2_with (go_at_call 94; go_must (refine (HW.out wr HS.out.below i hlt).mono ?_; rw [HI.out]; rintro E w2 ⟨rfl, p1⟩; have HS1 := Aside0.mk (HS.out.later p1); clear p1))
        go_loopw [4, 6] (fun iv tv wq => ∃ (i2 : Nat) (t : ByteArray), iv = .int .i64 i2 ∧ tv = .string t ∧ Aside0 (i ≤ i2 ∧ i2 ≤ n ∧ PJ l i2 (some i) out) ∧ Aside0 (t = catR (l.map (·.f0)) i i2) ∧ Aside0 (Sep w [rowT kW TW w.heap.size u3 out] wq)) (fun iv _ _ => n - (intOf iv).toNat)
        case atStart => exact ⟨i, ⟨#[]⟩, rfl, rfl, ⟨Nat.le_refl _, by omega, PJ_open HP.out.2 (by rw [← HN.out]; exact hlt) HI.out⟩, ⟨(catR_self _ _).symm⟩, HS1⟩
        case round =>
          obtain ⟨i2, t, rfl, rfl, HQ, HT, HS2⟩ := hrel
          by_cases hlt2 : i2 < n
          · have hd2 : decide ((i2 : Int) < (n : Int)) = true := decide_eq_true (by omega)
            have hd2' : decide (i2 < n) = true := decide_eq_true hlt2
            cases hin2 : inW (l.map (·.f0)) i2 with
            | true =>
              have HI2 := Aside0.mk hin2
              clear hin2
              obtain ⟨ad, rfl, z0, -, -⟩ := sg_at HC.out i2 hlt2 (by rw [← HN.out]; exact hlt2)
              have HCS := Aside0.mk (catR_succ (l.map (·.f0)) i i2 HQ.out.1 (by rw [List.length_map, ← HN.out]; exact hlt2))
              simp only [List.getElem_map] at HCS
              obtain ⟨x, hx⟩ : ∃ x, x = (l[i2]'(by rw [← HN.out]; exact hlt2)).f0 := ⟨_, rfl⟩
              rw [← hx] at z0 HCS
              have hsz : t.size + x.size ≤ 9223372036854775807 := by
                have h1 := catR_size (l.map (·.f0)) i (i2 + 1)
                rw [HCS.out, ← HT.out, ByteArray.size_append] at h1
                have := HSZ.out
                omega
              have Z0 := Aside0.mk z0
              clear z0 hx
              go_upto_region 8 with (go_at_call 94; go_must (refine (HW.out wr HS2.out.below i2 hlt2).mono ?_; rw [HI2.out]; rintro E w3 ⟨rfl, p1⟩; have HS3 := Aside0.mk (HS2.out.later p1); clear p1))
              have hcell := cell_later HS3.out.below Z0.out
              go_wp2
              go_roundw
              case rel => exact ⟨i2 + 1, t ++ x, by go_num, rfl, ⟨by have := HQ.out.1; omega, by omega, PJ_step HQ.out.2.2 (by rw [← HN.out]; exact hlt2) HI2.out⟩, ⟨by rw [HCS.out, HT.out]⟩, HS3⟩
              case measure => simp [intOf]; omega
            | false =>
              have HI2 := Aside0.mk hin2
              clear hin2
              have hii : i < i2 := by
                have := HQ.out.1
                rcases Nat.lt_or_ge i i2 with h | h
                · exact h
                · exact absurd (show i2 = i by omega) (fun e => by have h1 := HI.out; have h2 := HI2.out; rw [e, h1] at h2; cases h2)
              go_upto_region 10 with (go_at_call 94; go_must (refine (HW.out wr HS2.out.below i2 hlt2).mono ?_; rw [HI2.out]; rintro E w3 ⟨rfl, p1⟩; have HS3 := Aside0.mk (HS2.out.later p1); clear p1))
              have HPC := Aside0.mk (PJ_close HQ.out.2.2 (by rw [← HN.out]; omega) (fun _ => HI2.out))
              clear hd2 hd2' hlt2
              have hle : i2 ≤ n := HQ.out.2.1
              obtain ⟨j, rfl⟩ : ∃ j, i2 = j + 1 := ⟨i2 - 1, by omega⟩
              obtain ⟨ad0, e0, -, Z1, -⟩ := sg_at HC.out i (by omega) (by rw [← HN.out]; omega)
              obtain ⟨ad1, e1, -, -, Z2⟩ := sg_at HC.out j (by omega) (by rw [← HN.out]; omega)
              obtain rfl : ad1 = ad0 := Option.some.inj (e1.symm.trans e0)
              subst e0
              clear e1
              have hil : i < l.length := by rw [← HN.out]; omega
              have hjl : j < l.length := by rw [← HN.out]; omega
              have hg1 : (gAt l i).f1 = l[i].f1 := by rw [gAt_eq]
              have hg2 : (gAt l j).f2 = l[j].f2 := by rw [gAt_eq]
              obtain ⟨a1, ha1⟩ : ∃ a1, a1 = l[i].f1 := ⟨_, rfl⟩
              obtain ⟨a2, ha2⟩ : ∃ a2, a2 = l[j].f2 := ⟨_, rfl⟩
              rw [← ha1] at Z1 hg1
              rw [← ha2] at Z2 hg2
              obtain ⟨ky, hky⟩ : ∃ ky, ky = keyS (bytesOf t) := ⟨_, rfl⟩
              have HX := Aside0.mk (show wordOf l (i, j + 1) = ⟨ky, ⟨i, ((j + 1 : Nat) : Int), a1, a2⟩⟩ by
                unfold wordOf keyR
                simp only [Nat.add_sub_cancel, hg1, hg2]
                rw [← HT.out, hky])
              have hts : t.size ≤ 13000000 := by
                have h1 := catR_size (l.map (·.f0)) i (j + 1)
                rw [← HT.out] at h1
                have := HSZ.out
                omega
              have HKEY := Aside0.mk (fun (W : World) (h : Below w.heap.size w W) => KeyR W (HG.out.below h) t (by omega))
              rw [← hky] at HKEY
              have hwj : wrap64 (((j + 1 : Nat) : Int) - 1) = (j : Int) := by unfold wrap64; omega
              have hwj3 : IntKind.i64.wrap (j : Int) = (j : Int) := by rw [IntKind.wrap_i64]; omega
              have hjn : (n ≤ j) = False := eq_false (by omega)
              have hwj2 : wrap64 ((j : Int) + 1 - 1) = (j : Int) := by unfold wrap64; omega
              have ZA := Aside0.mk Z1
              have ZB := Aside0.mk Z2
              have kb := fun W => print_bytes (P := Tryz.prog) 9 28 5 Tryz.underlying9 Tryz.underlying28 Tryz.underlying5 t W
              have HB2 := Aside0.mk (fun W : World => bytes_below (Below.refl W.heap.size W) (Nat.le_refl _) 5 t)
              have HBR := Aside0.mk (fun W : World => bytes_reads W 5 t (by omega))
              obtain ⟨x, hx⟩ : ∃ x : SW, x = ⟨ky, ⟨i, ((j + 1 : Nat) : Int), a1, a2⟩⟩ := ⟨_, rfl⟩
              have HXX := Aside0.mk hx
              clear hg1 hg2 ha1 ha2 hky Z1 Z2 hx
              have SD := Aside0.mk (HS3.out.later ((Drawn0.refl w3).step 1).below)
              refine wp_region_held_drew (S := fun W => Below w.heap.size w W) (by kernel_rfl) SD.out.below (fun hS => ?_)
              refine wpAnyH_take (i := 0) (oi := { dst := some 36, op := _, type := _, pos := _, after := _, guard := _ }) (v := u3) rfl (by kernel_rfl) (by kernel_rfl) (by kernel_rfl) (fun _ _ _ h => h) (Or.inl ⟨by rfl, fun W hW => ?_⟩) hS ?_
              · (go_simp)
              try simp only [Act.put, List.setIfInBounds_toArray, List.set_cons_zero, List.set_cons_succ]
              refine wpAnyH_take (i := 1) (oi := { dst := some 37, op := _, type := _, pos := _, after := _, guard := _ }) (v := .string t) rfl (by kernel_rfl) (by kernel_rfl) (by kernel_rfl) (fun _ _ _ h => h) (Or.inl ⟨by rfl, fun W hW => ?_⟩) hS ?_
              · (go_simp)
              try simp only [Act.put, List.setIfInBounds_toArray, List.set_cons_zero, List.set_cons_succ]
              refine wpAnyH_take (i := 4) (oi := { dst := some 40, op := _, type := _, pos := _, after := _, guard := _ }) (v := .int .i64 (i : Int)) rfl (by kernel_rfl) (by kernel_rfl) (by kernel_rfl) (fun _ _ _ h => h) (Or.inl ⟨by rfl, fun W hW => ?_⟩) hS ?_
              · (go_simp)
              try simp only [Act.put, List.setIfInBounds_toArray, List.set_cons_zero, List.set_cons_succ]
              refine wpAnyH_take (i := 5) (oi := { dst := some 41, op := _, type := _, pos := _, after := _, guard := _ }) (v := .int .i64 ((j + 1 : Nat) : Int)) rfl (by kernel_rfl) (by kernel_rfl) (by kernel_rfl) (fun _ _ _ h => h) (Or.inl ⟨by rfl, fun W hW => ?_⟩) hS ?_
              · (go_simp)
              try simp only [Act.put, List.setIfInBounds_toArray, List.set_cons_zero, List.set_cons_succ]
              refine wpAnyH_take (i := 6) (oi := { dst := some 42, op := _, type := _, pos := _, after := _, guard := _ }) (v := .slice (some ad1) n c) rfl (by kernel_rfl) (by kernel_rfl) (by kernel_rfl) (fun _ _ _ h => h) (Or.inl ⟨by rfl, fun W hW => ?_⟩) hS ?_
              · (go_simp)
              try simp only [Act.put, List.setIfInBounds_toArray, List.set_cons_zero, List.set_cons_succ]
              refine wpAnyH_take (i := 7) (oi := { dst := some 43, op := _, type := _, pos := _, after := _, guard := _ }) (v := .int .i64 (i : Int)) rfl (by kernel_rfl) (by kernel_rfl) (by kernel_rfl) (fun _ _ _ h => h) (Or.inl ⟨by rfl, fun W hW => ?_⟩) hS ?_
              · (go_simp)
              try simp only [Act.put, List.setIfInBounds_toArray, List.set_cons_zero, List.set_cons_succ]
              refine wpAnyH_take (i := 8) (oi := { dst := some 44, op := _, type := _, pos := _, after := _, guard := _ }) (v := .pointer (some (ad1.add (i * 3)))) rfl (by kernel_rfl) (by kernel_rfl) (by kernel_rfl) (fun _ _ _ h => h) (Or.inl ⟨by rfl, fun W hW => ?_⟩) hS ?_
              · (go_simp)
              try simp only [Act.put, List.setIfInBounds_toArray, List.set_cons_zero, List.set_cons_succ]
              refine wpAnyH_take (i := 9) (oi := { dst := some 45, op := _, type := _, pos := _, after := _, guard := _ }) (v := .pointer (some ⟨(ad1.add (i * 3)).block, (ad1.add (i * 3)).off + 1, none⟩)) rfl (by kernel_rfl) (by kernel_rfl) (by kernel_rfl) (fun _ _ _ h => h) (Or.inl ⟨by rfl, fun W hW => ?_⟩) hS ?_
              · (go_simp)
              try simp only [Act.put, List.setIfInBounds_toArray, List.set_cons_zero, List.set_cons_succ]
              refine wpAnyH_take (i := 10) (oi := { dst := some 46, op := _, type := _, pos := _, after := _, guard := _ }) (v := .int .i64 a1) rfl (by kernel_rfl) (by kernel_rfl) (by kernel_rfl) (fun _ _ _ h => h) (Or.inl ⟨by rfl, fun W hW => ?_⟩) hS ?_
              · (have hcell := cell_later hW ZA.out; go_simp)
              try simp only [Act.put, List.setIfInBounds_toArray, List.set_cons_zero, List.set_cons_succ]
              refine wpAnyH_take (i := 11) (oi := { dst := some 47, op := _, type := _, pos := _, after := _, guard := _ }) (v := .slice (some ad1) n c) rfl (by kernel_rfl) (by kernel_rfl) (by kernel_rfl) (fun _ _ _ h => h) (Or.inl ⟨by rfl, fun W hW => ?_⟩) hS ?_
              · (go_simp)
              try simp only [Act.put, List.setIfInBounds_toArray, List.set_cons_zero, List.set_cons_succ]
              refine wpAnyH_take (i := 12) (oi := { dst := some 48, op := _, type := _, pos := _, after := _, guard := _ }) (v := .int .i64 ((j + 1 : Nat) : Int)) rfl (by kernel_rfl) (by kernel_rfl) (by kernel_rfl) (fun _ _ _ h => h) (Or.inl ⟨by rfl, fun W hW => ?_⟩) hS ?_
              · (go_simp)
              try simp only [Act.put, List.setIfInBounds_toArray, List.set_cons_zero, List.set_cons_succ]
              refine wpAnyH_take (i := 13) (oi := { dst := some 49, op := _, type := _, pos := _, after := _, guard := _ }) (v := .int .i64 (j : Int)) rfl (by kernel_rfl) (by kernel_rfl) (by kernel_rfl) (fun _ _ _ h => h) (Or.inl ⟨by rfl, fun W hW => ?_⟩) hS ?_
              · (go_simp)
              try simp only [Act.put, List.setIfInBounds_toArray, List.set_cons_zero, List.set_cons_succ]
              refine wpAnyH_take (i := 14) (oi := { dst := some 50, op := _, type := _, pos := _, after := _, guard := _ }) (v := .pointer (some (ad1.add (j * 3)))) rfl (by kernel_rfl) (by kernel_rfl) (by kernel_rfl) (fun _ _ _ h => h) (Or.inl ⟨by rfl, fun W hW => ?_⟩) hS ?_
              · (go_simp)
              try simp only [Act.put, List.setIfInBounds_toArray, List.set_cons_zero, List.set_cons_succ]
              refine wpAnyH_take (i := 15) (oi := { dst := some 51, op := _, type := _, pos := _, after := _, guard := _ }) (v := .pointer (some ⟨(ad1.add (j * 3)).block, (ad1.add (j * 3)).off + 2, none⟩)) rfl (by kernel_rfl) (by kernel_rfl) (by kernel_rfl) (fun _ _ _ h => h) (Or.inl ⟨by rfl, fun W hW => ?_⟩) hS ?_
              · (go_simp)
              try simp only [Act.put, List.setIfInBounds_toArray, List.set_cons_zero, List.set_cons_succ]
              refine wpAnyH_take (i := 16) (oi := { dst := some 52, op := _, type := _, pos := _, after := _, guard := _ }) (v := .int .i64 a2) rfl (by kernel_rfl) (by kernel_rfl) (by kernel_rfl) (fun _ _ _ h => h) (Or.inl ⟨by rfl, fun W hW => ?_⟩) hS ?_
              · (have hcell := cell_later hW ZB.out; go_simp)
              try simp only [Act.put, List.setIfInBounds_toArray, List.set_cons_zero, List.set_cons_succ]
              refine wpAnyH_take (i := 17) (oi := { dst := some 53, op := _, type := _, pos := _, after := _, guard := _ }) (v := .agg #[.int .i64 (i : Int), .int .i64 ((j + 1 : Nat) : Int), .int .i64 a1, .int .i64 a2]) rfl (by kernel_rfl) (by kernel_rfl) (by kernel_rfl) (fun _ _ _ h => h) (Or.inl ⟨by rfl, fun W hW => ?_⟩) hS ?_
              · (go_simp)
              try simp only [Act.put, List.setIfInBounds_toArray, List.set_cons_zero, List.set_cons_succ]
              refine wpAnyH_ready (rs := [2]) (by kernel_rfl) (by simp) ?_
              refine AllReadyH.cons (o := { dst := some 38, op := _, type := _, pos := _, after := _, guard := _ }) rfl (fun K hK => ?_) AllReadyH.nil
              go_simp
              have S4 := Aside0.mk (SD.out.later (HB2.out _))
              have C4 := Aside0.mk (HBR.out (w3.drewN 1))
              refine hK.out _ _ S4.out.below (fun hS2 => ?_)
              clear hK K hS
              have hS := hS2
              clear hS2
              try simp only [Act.put, List.setIfInBounds_toArray, List.set_cons_zero, List.set_cons_succ]
              refine wpAnyH_ready (rs := [3]) (by kernel_rfl) (by simp) ?_
              refine AllReadyH.cons (o := { dst := some 39, op := _, type := _, pos := _, after := _, guard := _ }) rfl (fun K hK => ?_) AllReadyH.nil
              go_simp
              refine (HKEY.out _ S4.out.below _ t.size _ (Hp.rdC (HBR.out w3.drew)) (bytesOf_length t).symm (grownCap_ge _ _ _ _)).mono ?_
              rintro E w5 ⟨rfl, p1⟩
              have S5 := Aside0.mk (S4.out.later p1)
              clear p1
              go_wp2_with fail
              refine hK.out _ _ S5.out.below (fun hS2 => ?_)
              clear hK K hS
              have hS := hS2
              clear hS2
              try simp only [Act.put, List.setIfInBounds_toArray, List.set_cons_zero, List.set_cons_succ]
              refine wpAnyH_take (i := 18) (oi := { dst := some 54, op := _, type := _, pos := _, after := _, guard := _ }) (v := .agg #[.string ky, .int .i64 (i : Int), .int .i64 ((j + 1 : Nat) : Int), .int .i64 a1, .int .i64 a2]) rfl (by kernel_rfl) (by kernel_rfl) (by kernel_rfl) (fun _ _ _ h => h) (Or.inl ⟨by rfl, fun W hW => ?_⟩) hS ?_
              · (go_simp)
              try simp only [Act.put, List.setIfInBounds_toArray, List.set_cons_zero, List.set_cons_succ]
              refine wpAnyH_ready (rs := [19]) (by kernel_rfl) (by simp) ?_
              refine AllReadyH.cons (o := { dst := some 55, op := _, type := _, pos := _, after := _, guard := _ }) rfl (fun K hK => ?_) AllReadyH.nil
              refine Kd.R_lit_step kW _ TW (by rfl) (N := 55) rfl (xs := [x]) (inner := [.string ky, .int .i64 (i : Int), .int .i64 ((j + 1 : Nat) : Int), .int .i64 a1, .int .i64 a2]) (ok := fun _ => True) (okp := fun _ => True) ?hr (Reps.c5 ?hm (Reps.none _ _)) (fun _ hk => hk) trivial (Below.refl _ _) (Nat.le_refl _) (by simp) (fun v6 w6 hR6 hb6 hg6 hat6 => ?_)
              case hr => first | (go_simp; done) | (go_simp; rfl)
              case hm => rw [HXX.out]; exact k47_mkM _ _ _ _
              obtain ⟨A6, c6, rfl, hc6, hC6⟩ := Kd.R_reads hR6
              have S6 := Aside0.mk (S5.out.later hb6)
              clear hR6 hb6 hg6 hat6
              refine hK.out _ _ S6.out.below (fun hS2 => ?_)
              clear hK K hS
              have hS := hS2
              clear hS2
              try simp only [Act.put, List.setIfInBounds_toArray, List.set_cons_zero, List.set_cons_succ]
              refine wpAnyH_ready (rs := [20]) (by kernel_rfl) (by simp) ?_
              refine AllReadyH.cons (o := { dst := some 56, op := _, type := _, pos := _, after := _, guard := _ }) rfl (fun K hK => ?_) AllReadyH.nil
              obtain ⟨ok7, q1, q2, q3⟩ := Sep.row (d := kW) (e := TW) (base := w.heap.size) (v := u3) (xs := out) S6.out 0 rfl
              refine Kd.R_append_rows_step kW (Rr := kW.K w6) (w0 := w6) w.heap.size (by rfl) (.tmp 36) (.tmp 55) 35 TW (.agg #[.string ⟨#[]⟩, .int .i64 0, .int .i64 0, .int .i64 0, .int .i64 0]) 48 rfl Tryz.underlying35 infoWd rfl (by decide) (by decide) u3 out [x] A6 [x].length c6 ok7 (fun _ => False) rfl rfl q1 hC6 (fun x cs h => kW_KM x cs h) (fun _ h => h.elim) q2 (Below.refl _ _) S6.out.below.size (by have := PJ_len HP.out.2; have := HN.out; simp only [List.length_singleton]; omega) (fun v7 w7 hR7 hb7 hg7 hat7 => ?_)
              have S7 := Aside0.mk (q3 v7 w7 _ hR7 hg7)
              clear q1 q2 q3 hR7 hb7 hg7 hat7
              refine hK.out _ _ S7.out.below (fun hS2 => ?_)
              clear hK K hS
              have hS := hS2
              clear hS2
              try simp only [Act.put, List.setIfInBounds_toArray, List.set_cons_zero, List.set_cons_succ]
              refine wpAnyH_take (i := 21) (oi := { dst := some 3, op := _, type := _, pos := _, after := _, guard := _ }) (v := v7) rfl (by kernel_rfl) (by kernel_rfl) (by kernel_rfl) (fun _ _ _ h => h) (Or.inl ⟨by rfl, fun W hW => ?_⟩) hS ?_
              · (go_simp)
              try simp only [Act.put, List.setIfInBounds_toArray, List.set_cons_zero, List.set_cons_succ]
              refine wpAnyH_done (by kernel_rfl) ?_ _
              go_wp2
              go_roundw
              case rel => exact ⟨j + 1 + 1, out ++ [x], by go_num, ⟨by omega, by have h := HPC.out; rw [HX.out, ← HXX.out] at h; exact h⟩, S7⟩
              case measure => simp [intOf]; omega
          · have hd2 : decide ((i2 : Int) < (n : Int)) = false := decide_eq_false (by omega)
            have hd2' : decide (i2 < n) = false := decide_eq_false hlt2
            have hle : i2 ≤ n := HQ.out.2.1
            have hii : i < i2 := by omega
            go_upto_region 10 with (fail)
            have HPC := Aside0.mk (PJ_close HQ.out.2.2 (by rw [← HN.out]; omega) (fun h => absurd h (by rw [← HN.out]; exact hlt2)))
            clear hd2 hd2' hlt2
            have HS3 := HS2
            obtain ⟨j, rfl⟩ : ∃ j, i2 = j + 1 := ⟨i2 - 1, by omega⟩
            obtain ⟨ad0, e0, -, Z1, -⟩ := sg_at HC.out i (by omega) (by rw [← HN.out]; omega)
            obtain ⟨ad1, e1, -, -, Z2⟩ := sg_at HC.out j (by omega) (by rw [← HN.out]; omega)
            obtain rfl : ad1 = ad0 := Option.some.inj (e1.symm.trans e0)
            subst e0
            clear e1
            have hil : i < l.length := by rw [← HN.out]; omega
            have hjl : j < l.length := by rw [← HN.out]; omega
            have hg1 : (gAt l i).f1 = l[i].f1 := by rw [gAt_eq]
            have hg2 : (gAt l j).f2 = l[j].f2 := by rw [gAt_eq]
            obtain ⟨a1, ha1⟩ : ∃ a1, a1 = l[i].f1 := ⟨_, rfl⟩
            obtain ⟨a2, ha2⟩ : ∃ a2, a2 = l[j].f2 := ⟨_, rfl⟩
            rw [← ha1] at Z1 hg1
            rw [← ha2] at Z2 hg2
            obtain ⟨ky, hky⟩ : ∃ ky, ky = keyS (bytesOf t) := ⟨_, rfl⟩
            have HX := Aside0.mk (show wordOf l (i, j + 1) = ⟨ky, ⟨i, ((j + 1 : Nat) : Int), a1, a2⟩⟩ by
              unfold wordOf keyR
              simp only [Nat.add_sub_cancel, hg1, hg2]
              rw [← HT.out, hky])
            have hts : t.size ≤ 13000000 := by
              have h1 := catR_size (l.map (·.f0)) i (j + 1)
              rw [← HT.out] at h1
              have := HSZ.out
              omega
            have HKEY := Aside0.mk (fun (W : World) (h : Below w.heap.size w W) => KeyR W (HG.out.below h) t (by omega))
            rw [← hky] at HKEY
            have hwj : wrap64 (((j + 1 : Nat) : Int) - 1) = (j : Int) := by unfold wrap64; omega
            have hwj3 : IntKind.i64.wrap (j : Int) = (j : Int) := by rw [IntKind.wrap_i64]; omega
            have hjn : (n ≤ j) = False := eq_false (by omega)
            have hwj2 : wrap64 ((j : Int) + 1 - 1) = (j : Int) := by unfold wrap64; omega
            have ZA := Aside0.mk Z1
            have ZB := Aside0.mk Z2
            have kb := fun W => print_bytes (P := Tryz.prog) 9 28 5 Tryz.underlying9 Tryz.underlying28 Tryz.underlying5 t W
            have HB2 := Aside0.mk (fun W : World => bytes_below (Below.refl W.heap.size W) (Nat.le_refl _) 5 t)
            have HBR := Aside0.mk (fun W : World => bytes_reads W 5 t (by omega))
            obtain ⟨x, hx⟩ : ∃ x : SW, x = ⟨ky, ⟨i, ((j + 1 : Nat) : Int), a1, a2⟩⟩ := ⟨_, rfl⟩
            have HXX := Aside0.mk hx
            clear hg1 hg2 ha1 ha2 hky Z1 Z2 hx
            have SD := Aside0.mk (HS3.out.later ((Drawn0.refl wr).step 1).below)
            refine wp_region_held_drew (S := fun W => Below w.heap.size w W) (by kernel_rfl) SD.out.below (fun hS => ?_)
            refine wpAnyH_take (i := 0) (oi := { dst := some 36, op := _, type := _, pos := _, after := _, guard := _ }) (v := u3) rfl (by kernel_rfl) (by kernel_rfl) (by kernel_rfl) (fun _ _ _ h => h) (Or.inl ⟨by rfl, fun W hW => ?_⟩) hS ?_
            · (go_simp)
            try simp only [Act.put, List.setIfInBounds_toArray, List.set_cons_zero, List.set_cons_succ]
            refine wpAnyH_take (i := 1) (oi := { dst := some 37, op := _, type := _, pos := _, after := _, guard := _ }) (v := .string t) rfl (by kernel_rfl) (by kernel_rfl) (by kernel_rfl) (fun _ _ _ h => h) (Or.inl ⟨by rfl, fun W hW => ?_⟩) hS ?_
            · (go_simp)
            try simp only [Act.put, List.setIfInBounds_toArray, List.set_cons_zero, List.set_cons_succ]
            refine wpAnyH_take (i := 4) (oi := { dst := some 40, op := _, type := _, pos := _, after := _, guard := _ }) (v := .int .i64 (i : Int)) rfl (by kernel_rfl) (by kernel_rfl) (by kernel_rfl) (fun _ _ _ h => h) (Or.inl ⟨by rfl, fun W hW => ?_⟩) hS ?_
            · (go_simp)
            try simp only [Act.put, List.setIfInBounds_toArray, List.set_cons_zero, List.set_cons_succ]
            refine wpAnyH_take (i := 5) (oi := { dst := some 41, op := _, type := _, pos := _, after := _, guard := _ }) (v := .int .i64 ((j + 1 : Nat) : Int)) rfl (by kernel_rfl) (by kernel_rfl) (by kernel_rfl) (fun _ _ _ h => h) (Or.inl ⟨by rfl, fun W hW => ?_⟩) hS ?_
            · (go_simp)
            try simp only [Act.put, List.setIfInBounds_toArray, List.set_cons_zero, List.set_cons_succ]
            refine wpAnyH_take (i := 6) (oi := { dst := some 42, op := _, type := _, pos := _, after := _, guard := _ }) (v := .slice (some ad1) n c) rfl (by kernel_rfl) (by kernel_rfl) (by kernel_rfl) (fun _ _ _ h => h) (Or.inl ⟨by rfl, fun W hW => ?_⟩) hS ?_
            · (go_simp)
            try simp only [Act.put, List.setIfInBounds_toArray, List.set_cons_zero, List.set_cons_succ]
            refine wpAnyH_take (i := 7) (oi := { dst := some 43, op := _, type := _, pos := _, after := _, guard := _ }) (v := .int .i64 (i : Int)) rfl (by kernel_rfl) (by kernel_rfl) (by kernel_rfl) (fun _ _ _ h => h) (Or.inl ⟨by rfl, fun W hW => ?_⟩) hS ?_
            · (go_simp)
            try simp only [Act.put, List.setIfInBounds_toArray, List.set_cons_zero, List.set_cons_succ]
            refine wpAnyH_take (i := 8) (oi := { dst := some 44, op := _, type := _, pos := _, after := _, guard := _ }) (v := .pointer (some (ad1.add (i * 3)))) rfl (by kernel_rfl) (by kernel_rfl) (by kernel_rfl) (fun _ _ _ h => h) (Or.inl ⟨by rfl, fun W hW => ?_⟩) hS ?_
            · (go_simp)
            try simp only [Act.put, List.setIfInBounds_toArray, List.set_cons_zero, List.set_cons_succ]
            refine wpAnyH_take (i := 9) (oi := { dst := some 45, op := _, type := _, pos := _, after := _, guard := _ }) (v := .pointer (some ⟨(ad1.add (i * 3)).block, (ad1.add (i * 3)).off + 1, none⟩)) rfl (by kernel_rfl) (by kernel_rfl) (by kernel_rfl) (fun _ _ _ h => h) (Or.inl ⟨by rfl, fun W hW => ?_⟩) hS ?_
            · (go_simp)
            try simp only [Act.put, List.setIfInBounds_toArray, List.set_cons_zero, List.set_cons_succ]
            refine wpAnyH_take (i := 10) (oi := { dst := some 46, op := _, type := _, pos := _, after := _, guard := _ }) (v := .int .i64 a1) rfl (by kernel_rfl) (by kernel_rfl) (by kernel_rfl) (fun _ _ _ h => h) (Or.inl ⟨by rfl, fun W hW => ?_⟩) hS ?_
            · (have hcell := cell_later hW ZA.out; go_simp)
            try simp only [Act.put, List.setIfInBounds_toArray, List.set_cons_zero, List.set_cons_succ]
            refine wpAnyH_take (i := 11) (oi := { dst := some 47, op := _, type := _, pos := _, after := _, guard := _ }) (v := .slice (some ad1) n c) rfl (by kernel_rfl) (by kernel_rfl) (by kernel_rfl) (fun _ _ _ h => h) (Or.inl ⟨by rfl, fun W hW => ?_⟩) hS ?_
            · (go_simp)
            try simp only [Act.put, List.setIfInBounds_toArray, List.set_cons_zero, List.set_cons_succ]
            refine wpAnyH_take (i := 12) (oi := { dst := some 48, op := _, type := _, pos := _, after := _, guard := _ }) (v := .int .i64 ((j + 1 : Nat) : Int)) rfl (by kernel_rfl) (by kernel_rfl) (by kernel_rfl) (fun _ _ _ h => h) (Or.inl ⟨by rfl, fun W hW => ?_⟩) hS ?_
            · (go_simp)
            try simp only [Act.put, List.setIfInBounds_toArray, List.set_cons_zero, List.set_cons_succ]
            refine wpAnyH_take (i := 13) (oi := { dst := some 49, op := _, type := _, pos := _, after := _, guard := _ }) (v := .int .i64 (j : Int)) rfl (by kernel_rfl) (by kernel_rfl) (by kernel_rfl) (fun _ _ _ h => h) (Or.inl ⟨by rfl, fun W hW => ?_⟩) hS ?_
            · (go_simp)
            try simp only [Act.put, List.setIfInBounds_toArray, List.set_cons_zero, List.set_cons_succ]
            refine wpAnyH_take (i := 14) (oi := { dst := some 50, op := _, type := _, pos := _, after := _, guard := _ }) (v := .pointer (some (ad1.add (j * 3)))) rfl (by kernel_rfl) (by kernel_rfl) (by kernel_rfl) (fun _ _ _ h => h) (Or.inl ⟨by rfl, fun W hW => ?_⟩) hS ?_
            · (go_simp)
            try simp only [Act.put, List.setIfInBounds_toArray, List.set_cons_zero, List.set_cons_succ]
            refine wpAnyH_take (i := 15) (oi := { dst := some 51, op := _, type := _, pos := _, after := _, guard := _ }) (v := .pointer (some ⟨(ad1.add (j * 3)).block, (ad1.add (j * 3)).off + 2, none⟩)) rfl (by kernel_rfl) (by kernel_rfl) (by kernel_rfl) (fun _ _ _ h => h) (Or.inl ⟨by rfl, fun W hW => ?_⟩) hS ?_
            · (go_simp)
            try simp only [Act.put, List.setIfInBounds_toArray, List.set_cons_zero, List.set_cons_succ]
            refine wpAnyH_take (i := 16) (oi := { dst := some 52, op := _, type := _, pos := _, after := _, guard := _ }) (v := .int .i64 a2) rfl (by kernel_rfl) (by kernel_rfl) (by kernel_rfl) (fun _ _ _ h => h) (Or.inl ⟨by rfl, fun W hW => ?_⟩) hS ?_
            · (have hcell := cell_later hW ZB.out; go_simp)
            try simp only [Act.put, List.setIfInBounds_toArray, List.set_cons_zero, List.set_cons_succ]
            refine wpAnyH_take (i := 17) (oi := { dst := some 53, op := _, type := _, pos := _, after := _, guard := _ }) (v := .agg #[.int .i64 (i : Int), .int .i64 ((j + 1 : Nat) : Int), .int .i64 a1, .int .i64 a2]) rfl (by kernel_rfl) (by kernel_rfl) (by kernel_rfl) (fun _ _ _ h => h) (Or.inl ⟨by rfl, fun W hW => ?_⟩) hS ?_
            · (go_simp)
            try simp only [Act.put, List.setIfInBounds_toArray, List.set_cons_zero, List.set_cons_succ]
            refine wpAnyH_ready (rs := [2]) (by kernel_rfl) (by simp) ?_
            refine AllReadyH.cons (o := { dst := some 38, op := _, type := _, pos := _, after := _, guard := _ }) rfl (fun K hK => ?_) AllReadyH.nil
            go_simp
            have S4 := Aside0.mk (SD.out.later (HB2.out _))
            have C4 := Aside0.mk (HBR.out (wr.drewN 1))
            refine hK.out _ _ S4.out.below (fun hS2 => ?_)
            clear hK K hS
            have hS := hS2
            clear hS2
            try simp only [Act.put, List.setIfInBounds_toArray, List.set_cons_zero, List.set_cons_succ]
            refine wpAnyH_ready (rs := [3]) (by kernel_rfl) (by simp) ?_
            refine AllReadyH.cons (o := { dst := some 39, op := _, type := _, pos := _, after := _, guard := _ }) rfl (fun K hK => ?_) AllReadyH.nil
            go_simp
            refine (HKEY.out _ S4.out.below _ t.size _ (Hp.rdC (HBR.out wr.drew)) (bytesOf_length t).symm (grownCap_ge _ _ _ _)).mono ?_
            rintro E w5 ⟨rfl, p1⟩
            have S5 := Aside0.mk (S4.out.later p1)
            clear p1
            go_wp2_with fail
            refine hK.out _ _ S5.out.below (fun hS2 => ?_)
            clear hK K hS
            have hS := hS2
            clear hS2
            try simp only [Act.put, List.setIfInBounds_toArray, List.set_cons_zero, List.set_cons_succ]
            refine wpAnyH_take (i := 18) (oi := { dst := some 54, op := _, type := _, pos := _, after := _, guard := _ }) (v := .agg #[.string ky, .int .i64 (i : Int), .int .i64 ((j + 1 : Nat) : Int), .int .i64 a1, .int .i64 a2]) rfl (by kernel_rfl) (by kernel_rfl) (by kernel_rfl) (fun _ _ _ h => h) (Or.inl ⟨by rfl, fun W hW => ?_⟩) hS ?_
            · (go_simp)
            try simp only [Act.put, List.setIfInBounds_toArray, List.set_cons_zero, List.set_cons_succ]
            refine wpAnyH_ready (rs := [19]) (by kernel_rfl) (by simp) ?_
            refine AllReadyH.cons (o := { dst := some 55, op := _, type := _, pos := _, after := _, guard := _ }) rfl (fun K hK => ?_) AllReadyH.nil
            refine Kd.R_lit_step kW _ TW (by rfl) (N := 55) rfl (xs := [x]) (inner := [.string ky, .int .i64 (i : Int), .int .i64 ((j + 1 : Nat) : Int), .int .i64 a1, .int .i64 a2]) (ok := fun _ => True) (okp := fun _ => True) ?hr (Reps.c5 ?hm (Reps.none _ _)) (fun _ hk => hk) trivial (Below.refl _ _) (Nat.le_refl _) (by simp) (fun v6 w6 hR6 hb6 hg6 hat6 => ?_)
            case hr => first | (go_simp; done) | (go_simp; rfl)
            case hm => rw [HXX.out]; exact k47_mkM _ _ _ _
            obtain ⟨A6, c6, rfl, hc6, hC6⟩ := Kd.R_reads hR6
            have S6 := Aside0.mk (S5.out.later hb6)
            clear hR6 hb6 hg6 hat6
            refine hK.out _ _ S6.out.below (fun hS2 => ?_)
            clear hK K hS
            have hS := hS2
            clear hS2
            try simp only [Act.put, List.setIfInBounds_toArray, List.set_cons_zero, List.set_cons_succ]
            refine wpAnyH_ready (rs := [20]) (by kernel_rfl) (by simp) ?_
            refine AllReadyH.cons (o := { dst := some 56, op := _, type := _, pos := _, after := _, guard := _ }) rfl (fun K hK => ?_) AllReadyH.nil
            obtain ⟨ok7, q1, q2, q3⟩ := Sep.row (d := kW) (e := TW) (base := w.heap.size) (v := u3) (xs := out) S6.out 0 rfl
            refine Kd.R_append_rows_step kW (Rr := kW.K w6) (w0 := w6) w.heap.size (by rfl) (.tmp 36) (.tmp 55) 35 TW (.agg #[.string ⟨#[]⟩, .int .i64 0, .int .i64 0, .int .i64 0, .int .i64 0]) 48 rfl Tryz.underlying35 infoWd rfl (by decide) (by decide) u3 out [x] A6 [x].length c6 ok7 (fun _ => False) rfl rfl q1 hC6 (fun x cs h => kW_KM x cs h) (fun _ h => h.elim) q2 (Below.refl _ _) S6.out.below.size (by have := PJ_len HP.out.2; have := HN.out; simp only [List.length_singleton]; omega) (fun v7 w7 hR7 hb7 hg7 hat7 => ?_)
            have S7 := Aside0.mk (q3 v7 w7 _ hR7 hg7)
            clear q1 q2 q3 hR7 hb7 hg7 hat7
            refine hK.out _ _ S7.out.below (fun hS2 => ?_)
            clear hK K hS
            have hS := hS2
            clear hS2
            try simp only [Act.put, List.setIfInBounds_toArray, List.set_cons_zero, List.set_cons_succ]
            refine wpAnyH_take (i := 21) (oi := { dst := some 3, op := _, type := _, pos := _, after := _, guard := _ }) (v := v7) rfl (by kernel_rfl) (by kernel_rfl) (by kernel_rfl) (fun _ _ _ h => h) (Or.inl ⟨by rfl, fun W hW => ?_⟩) hS ?_
            · (go_simp)
            try simp only [Act.put, List.setIfInBounds_toArray, List.set_cons_zero, List.set_cons_succ]
            refine wpAnyH_done (by kernel_rfl) ?_ _
            go_wp2
            go_roundw
            case rel => exact ⟨j + 1 + 1, out ++ [x], by go_num, ⟨by omega, by have h := HPC.out; rw [HX.out, ← HXX.out] at h; exact h⟩, S7⟩
            case measure => simp [intOf]; omega
    · have hd : decide ((i : Int) < (n : Int)) = false := decide_eq_false (by omega)
      have hd' : decide (i < n) = false := decide_eq_false hlt
      have HE := Aside0.mk (PJ_end HP.out.2 (by rw [← HN.out]; omega))
      clear hlt
      go_wp2
      go_ret
      exact ⟨u3, rfl, by rw [← HE.out]; exact post_of2 HS.out 0 rfl, HS.out.below⟩
end Go.Proofs.YtdambnclbpipdaaGreatDoor.Wj
namespace Go.Proofs.YtdambnclbpipdaaGreatDoor.X
set_option linter.unusedVariables false
set_option linter.unusedSimpArgs false
open Go.RowKit Go.Proofs.YtdambnclbpipdaaGreatDoorW.PrintWords Go.Proofs.YtdambnclbpipdaaGreatDoorW.PrintLast Go.Proofs.YtdambnclbpipdaaGreatDoorW.PrintMore
def words_Join.f (l : List S154) : Option (List S47) := if Wg.sizes (l.map (·.f0)) ≤ 13000000 ∧ l.length ≤ 13000000 then some (Wg.wordsF l) else none
theorem words_Join.calls (A0 : Option Addr) (c0 : Nat) (l0 : List S154) (r : List S47) (w : World) (hr0 : Kd.C k154 w A0 l0.length l0) (hc0 : l0.length ≤ c0) (h : words_Join.f l0 = some r) (hG0 : Va.G w) :
    Calls Tryz.prog 78 #[.slice A0 l0.length c0] w fun e w' => ∃ v0_ : Value, e = .returned v0_ ∧ Kd.R k47 47 w' w.heap.size (fun _ => True) v0_ r ∧ Below w.heap.size w w' := by
  unfold words_Join.f at h
  split at h
  · rename_i hh
    cases Option.some.inj h
    exact Wj.JoinP w hG0 A0 l0.length c0 l0 hr0 rfl hc0 hh.1 hh.2
  · cases h
end Go.Proofs.YtdambnclbpipdaaGreatDoor.X
namespace Go.Proofs.YtdambnclbpipdaaGreatDoor.Sgz
set_option linter.unusedVariables false
set_option linter.unusedSimpArgs false
open Go.Proofs.YtdambnclbpipdaaGreatDoor.Ux (Bytes full dc)
open Go.Proofs.YtdambnclbpipdaaGreatDoor.Ot (rns)
open Go.RowKit Go.Proofs.YtdambnclbpipdaaGreatDoorW.PrintWords Go.Proofs.YtdambnclbpipdaaGreatDoor.Hp Go.Proofs.YtdambnclbpipdaaGreatDoor.Fm Go.Proofs.YtdambnclbpipdaaGreatDoor.Ev0 Go.Proofs.YtdambnclbpipdaaGreatDoor.X Go.Proofs.YtdambnclbpipdaaGreatDoor.Va Go.Proofs.YtdambnclbpipdaaGreatDoor.Oa Go.Proofs.YtdambnclbpipdaaGreatDoor.Vp0 Go.Proofs.YtdambnclbpipdaaGreatDoor.Sga Go.Proofs.YtdambnclbpipdaaGreatDoor.Sgb Go.Proofs.YtdambnclbpipdaaGreatDoor.Sgd Go.Proofs.YtdambnclbpipdaaGreatDoor.Sgp Go.Proofs.YtdambnclbpipdaaGreatDoor.Sgq Go.Proofs.YtdambnclbpipdaaGreatDoor.Sgt Go.Proofs.YtdambnclbpipdaaGreatDoor.Sgu Go.Proofs.YtdambnclbpipdaaGreatDoor.Sgv
theorem good_take (lim : Int) : ∀ l : List SG, (goodS lim l).1 = l.take (goodS lim l).1.length ∧ (goodS lim l).1.length ≤ l.length
  | [] => by simp [goodS]
  | s :: l => by
    have ih := good_take lim l
    rw [goodS]
    split
    · simp
    · refine ⟨?_, by simp only [List.length_cons]; omega⟩
      show s :: (goodS lim l).1 = (s :: l).take ((goodS lim l).1.length + 1)
      rw [List.take_succ_cons, ← ih.1]
end Go.Proofs.YtdambnclbpipdaaGreatDoor.Sgz
namespace Go.Proofs.YtdambnclbpipdaaGreatDoor.X
open Go.RowKit Go.Proofs.YtdambnclbpipdaaGreatDoorW.PrintWords Go.Proofs.YtdambnclbpipdaaGreatDoorW.PrintLast Go.Proofs.YtdambnclbpipdaaGreatDoorW.PrintMore
attribute [local go_sem] max2_int min2_int max_two min_two max_three min_three max_four min_four   
set_option linter.unusedVariables false
set_option linter.unusedSimpArgs false
def words_Words.f (l0 : List Int) (a1 : Int) : Option ((List (S47)) × Int) := (seg_Split.f l0 a1).bind fun bt305 => (if bt305.2 = 0 then ((words_Join.f bt305.1).bind fun t309 => (some (t309, 0))) else (some (([] : List (S47)), bt305.2)))
set_option maxHeartbeats 8000000 in
set_option maxRecDepth 100000 in
theorem words_Words.calls (A0 : Option Addr) (c0 : Nat) (l0 : List Int) (a1 : Int) (r1 : List (S47)) (r2 : Int) (w : World) (hr0 : Kd.C (Kd.int .u8) w A0 l0.length l0) (hc0 : l0.length ≤ c0) (h : words_Words.f l0 a1 = some (r1, r2)) (hG0 : Va.G w) :
  Calls Tryz.prog 55 #[.slice A0 l0.length c0, .int .i64 a1] w fun e w' => ∃ v0_ : Value, e = .returned (.tuple #[v0_, .int .i64 r2]) ∧ Kd.R k47 47 w' w.heap.size (fun _ => True) v0_ r1 ∧ Below w.heap.size w w' := by
 have HG := Aside0.mk hG0
 clear hG0
 have HR0 := Aside0.mk hr0
 have HC0 := Aside0.mk hc0
 clear hr0 hc0
 have HB := Aside0.mk (Below.refl w.heap.size w)
 have H : ((seg_Split.f l0 a1).bind fun bt305 => (if bt305.2 = 0 then ((words_Join.f bt305.1).bind fun t309 => (some (t309, 0))) else (some (([] : List (S47)), bt305.2)))) = some (r1, r2) := h
 clear h
 replace H := Option.bind_eq_some_iff.mp H
 obtain ⟨⟨t305, t306⟩, A30, H⟩ := H
 replace H : (if t306 = 0 then ((words_Join.f t305).bind fun t309 => (some (t309, 0))) else (some (([] : List (S47)), t306))) = some (r1, r2) := H
 have A3 := Aside0.mk A30
 clear A30
 by_cases c4 : t306 = 0
 ·rw [if_pos c4] at H
  have c4b0 : (t306 == 0) = true := beq_iff_eq.mpr c4
  have c4b1 : (t306 != 0) = false := bne_eq_false_iff_eq.mpr c4
  clear c4
  replace H := Option.bind_eq_some_iff.mp H
  obtain ⟨t309, A50, H⟩ := H
  replace H : (some (t309, 0)) = some (r1, r2) := H
  have A5 := Aside0.mk A50
  clear A50
  simp only [Option.some.injEq, Prod.mk.injEq] at H
  obtain ⟨rfl, rfl⟩ := H
  go_enter Tryz.func55, Tryz.ntmps55
  go_wp2_with (first | ((with_reducible refine gate_callee (f := 77) rfl ?_); refine goesL_ (some 11) rfl rfl Tryz.func77 (by kernel_rfl) rfl #[.slice A0 l0.length c0, .int .i64 a1] rfl (by (try simp only [List.map_toArray, List.map_cons, List.map_nil]); first | done | rfl | (simp only [List.length_drop, List.length_take]; rfl)) ?_; (with_reducible refine (seg_Split.calls _ _ l0 a1 t305 t306 _ ?side1 ?side2 A3.out (by first | exact HG.out | exact Va.G.below HG.out (by repeat (first | (with_reducible first | exact HB.out | apply below_alloc | apply pw_below_drewN | apply below_drew1) | exact HB.out)))).mono ?_); (case side1 => repeat (first | exact HR0.out | (with_reducible refine Kd.C_alloc ?_ _) | (with_reducible refine Kd.C_drewN ?_ _) | (with_reducible refine Kd.C_drew ?_))); (case side2 => exact HC0.out); rintro e w6 ⟨v307, rfl, ho0, hb⟩; refine ⟨_, rfl, ?_⟩; have n0_ := Aside0.mk (Kd.R_lower ho0 (below_size (by repeat (first | (with_reducible first | exact HB.out | apply below_alloc | apply pw_below_drewN | apply below_drew1) | exact HB.out)))); have n1_ := Aside0.mk (below_step (by repeat (first | (with_reducible first | exact HB.out | apply below_alloc | apply pw_below_drewN | apply below_drew1) | exact HB.out)) hb); clear HB; have HO308 := n0_; have HB := n1_; clear n0_ n1_; (try clear hb); (try clear hb2); (try clear hk); (try clear hi); (try clear ho0); obtain ⟨Ao7, co7, eo7⟩ := Kd.R_slice HO308.out; subst eo7) | ((with_reducible refine gate_callee (f := 78) rfl ?_); refine goesL_ (some 18) rfl rfl Tryz.func78 (by kernel_rfl) rfl #[.slice Ao7 t305.length co7] rfl (by (try simp only [List.map_toArray, List.map_cons, List.map_nil]); first | done | rfl | (simp only [List.length_drop, List.length_take]; rfl)) ?_; (with_reducible refine (words_Join.calls _ _ t305 t309 _ ?side1 ?side2 A5.out (by first | exact HG.out | exact Va.G.below HG.out (by repeat (first | (with_reducible first | exact HB.out | apply below_alloc | apply pw_below_drewN | apply below_drew1) | exact HB.out)))).mono ?_); (case side1 => repeat (first | exact (Kd.R_reads' HO308.out).2.2 | (with_reducible refine Kd.C_alloc ?_ _) | (with_reducible refine Kd.C_drewN ?_ _) | (with_reducible refine Kd.C_drew ?_))); (case side2 => exact (Kd.R_reads' HO308.out).2.1); rintro e w8 ⟨v310, rfl, ho0, hb⟩; refine ⟨_, rfl, ?_⟩; have n0_ := Aside0.mk (Kd.R_below (by (with_reducible repeat (first | apply Kd.R_alloc | apply Kd.R_drewN | apply Kd.R_drew)); exact HO308.out) hb); have n1_ := Aside0.mk (Kd.R_lower ho0 (below_size (by repeat (first | (with_reducible first | exact HB.out | apply below_alloc | apply pw_below_drewN | apply below_drew1) | exact HB.out)))); have n2_ := Aside0.mk (below_step (by repeat (first | (with_reducible first | exact HB.out | apply below_alloc | apply pw_below_drewN | apply below_drew1) | exact HB.out)) hb); clear HO308; clear HB; have HO308 := n0_; have HO311 := n1_; have HB := n2_; clear n0_ n1_ n2_; (try clear hb); (try clear hb2); (try clear hk); (try clear hi); (try clear ho0)))
  go_ret2
  exact ⟨_, by first | rfl | (simp [errW_none, errW_some] <;> rfl) | (simp [*, errW_none, errW_some] <;> rfl), by (with_reducible repeat (first | apply Kd.R_alloc | apply Kd.R_drewN | apply Kd.R_drew)); exact HO311.out, by repeat (first | (with_reducible first | exact HB.out | apply below_alloc | apply pw_below_drewN | apply below_drew1) | exact HB.out)⟩
 ·rw [if_neg c4] at H
  have c4b0 : (t306 == 0) = false := beq_eq_false_iff_ne.mpr c4
  have c4b1 : (t306 != 0) = true := bne_iff_ne.mpr c4
  simp only [Option.some.injEq, Prod.mk.injEq] at H
  obtain ⟨rfl, rfl⟩ := H
  go_enter Tryz.func55, Tryz.ntmps55
  go_wp2_with (first | ((with_reducible refine gate_callee (f := 77) rfl ?_); refine goesL_ (some 11) rfl rfl Tryz.func77 (by kernel_rfl) rfl #[.slice A0 l0.length c0, .int .i64 a1] rfl (by (try simp only [List.map_toArray, List.map_cons, List.map_nil]); first | done | rfl | (simp only [List.length_drop, List.length_take]; rfl)) ?_; (with_reducible refine (seg_Split.calls _ _ l0 a1 t305 t306 _ ?side1 ?side2 A3.out (by first | exact HG.out | exact Va.G.below HG.out (by repeat (first | (with_reducible first | exact HB.out | apply below_alloc | apply pw_below_drewN | apply below_drew1) | exact HB.out)))).mono ?_); (case side1 => repeat (first | exact HR0.out | (with_reducible refine Kd.C_alloc ?_ _) | (with_reducible refine Kd.C_drewN ?_ _) | (with_reducible refine Kd.C_drew ?_))); (case side2 => exact HC0.out); rintro e w9 ⟨v307, rfl, ho0, hb⟩; refine ⟨_, rfl, ?_⟩; have n0_ := Aside0.mk (Kd.R_lower ho0 (below_size (by repeat (first | (with_reducible first | exact HB.out | apply below_alloc | apply pw_below_drewN | apply below_drew1) | exact HB.out)))); have n1_ := Aside0.mk (below_step (by repeat (first | (with_reducible first | exact HB.out | apply below_alloc | apply pw_below_drewN | apply below_drew1) | exact HB.out)) hb); clear HB; have HO308 := n0_; have HB := n1_; clear n0_ n1_; (try clear hb); (try clear hb2); (try clear hk); (try clear hi); (try clear ho0)))
  go_ret2
  exact ⟨_, by first | rfl | (simp [errW_none, errW_some] <;> rfl) | (simp [*, errW_none, errW_some] <;> rfl), by first | exact Kd.R_nil _ _ _ _ _ | exact Kd.N_nil _ _ _ _ _ | exact Kd.V_nil _ _ _ _ _ | exact Kd.Q_nil _ _ _ _ _ | exact Kd.S_nil _ _ _ _ _, by repeat (first | (with_reducible first | exact HB.out | apply below_alloc | apply pw_below_drewN | apply below_drew1) | exact HB.out)⟩
end Go.Proofs.YtdambnclbpipdaaGreatDoor.X
namespace Go.Proofs.YtdambnclbpipdaaGreatDoor.We
set_option linter.unusedVariables false
set_option linter.unusedSimpArgs false
open Go.Proofs.YtdambnclbpipdaaGreatDoor.Ux (Bytes full)
open Go.Proofs.YtdambnclbpipdaaGreatDoor.Ot (rns)
open Go.RowKit Go.Proofs.YtdambnclbpipdaaGreatDoorW.PrintWords Go.Proofs.YtdambnclbpipdaaGreatDoor.Ev0 Go.Proofs.YtdambnclbpipdaaGreatDoor.X Go.Proofs.YtdambnclbpipdaaGreatDoor.Oa Go.Proofs.YtdambnclbpipdaaGreatDoor.Ob Go.Proofs.YtdambnclbpipdaaGreatDoor.Vp0 Go.Proofs.YtdambnclbpipdaaGreatDoor.Sga Go.Proofs.YtdambnclbpipdaaGreatDoor.Sgb Go.Proofs.YtdambnclbpipdaaGreatDoor.Sgd Go.Proofs.YtdambnclbpipdaaGreatDoor.Sgp Go.Proofs.YtdambnclbpipdaaGreatDoor.Sgv Go.Proofs.YtdambnclbpipdaaGreatDoor.Sgw Go.Proofs.YtdambnclbpipdaaGreatDoor.Wa Go.Proofs.YtdambnclbpipdaaGreatDoor.Wb Go.Proofs.YtdambnclbpipdaaGreatDoor.Wd Go.Proofs.YtdambnclbpipdaaGreatDoor.Wg
theorem catB_len : ∀ l : List ByteArray, sizes l = (catB l).size := fun l => (catB_size l).symm
theorem sizes_take (l : List ByteArray) (k : Nat) : sizes (l.take k) ≤ sizes l := by
  have : sizes l = sizes (l.take k) + sizes (l.drop k) := by rw [← sizes_app, List.take_append_drop]
  omega
theorem cut_map (b : List Int) : (cutS (full b)).map (·.f0) = Sgt.cutTS (rns b) := by
  unfold rns cutS Sgt.cutTS
  cases full b with
  | nil => rfl
  | cons p t => exact Sgt.cutR_txt t _ _ _
theorem txt_sz (b : List Int) (hB : Bytes b) : (txt (rns b)).size ≤ 12 * b.length := by
  have h := nfd_len b hB
  rw [txt_nfd, str_size (nfd_byte b)]
  exact h
theorem split_take (lim : Int) (b : List Int) (hB : Bytes b) (hl : b.length ≤ 1048576) : ∃ k, (splitF lim b).1 = (cutS (full b)).take k ∧ sizes ((splitF lim b).1.map (·.f0)) ≤ 13000000 ∧ (splitF lim b).1.length ≤ 13000000 := by
  have hsz : sizes ((cutS (full b)).map (·.f0)) ≤ 13000000 := by
    rw [cut_map, catB_len, cutTS_cat]
    have := txt_sz b hB
    omega
  have hln := (Sgr.fsize b hB (by omega)).2
  by_cases h : lim < 1 ∨ lim > 64
  · refine ⟨0, ?_⟩
    unfold splitF
    rw [if_pos h]
    exact ⟨rfl, by decide, by decide⟩
  · have e := split_cut lim b hB (by omega) (by omega) (by omega)
    have ht := (Sgz.good_take lim (cutS (full b))).1
    have hle := (Sgz.good_take lim (cutS (full b))).2
    rw [e]
    refine ⟨(goodS lim (cutS (full b))).1.length, ht, ?_, by simp only; omega⟩
    simp only
    rw [ht, List.map_take]
    have := sizes_take ((cutS (full b)).map (·.f0)) (goodS lim (cutS (full b))).1.length
    omega
theorem wordsE (lim : Int) (b : List Int) (hB : Bytes b) (hl : b.length ≤ 1048576) : words_Words.f b lim = some (if (splitF lim b).2 = 0 then (wordsF (splitF lim b).1, 0) else ([], (splitF lim b).2)) := by
  obtain ⟨k, -, h2, h3⟩ := split_take lim b hB hl
  have e1 : seg_Split.f b lim = some (splitF lim b) := by unfold seg_Split.f; rw [if_pos ⟨Sgr.bytesB_mk hB, by omega⟩]
  unfold words_Words.f
  rw [e1]
  simp only [Option.bind_some]
  by_cases h : (splitF lim b).2 = 0
  · rw [if_pos h, if_pos h]
    unfold words_Join.f
    rw [if_pos ⟨h2, h3⟩]
    rfl
  · rw [if_neg h, if_neg h]
theorem wordsF_len (l : List SG) : (wordsF l).length ≤ l.length := by
  have h3 := (runs_len (inW (l.map (·.f0))) (l.map (·.f0)).length 0).1
  unfold wordsF runsT
  rw [List.length_map]
  rw [List.length_map] at h3 ⊢
  exact h3
end Go.Proofs.YtdambnclbpipdaaGreatDoor.We
namespace Go.Proofs.YtdambnclbpipdaaGreatDoor.Mc
set_option linter.unusedVariables false
set_option linter.unusedSimpArgs false
open Go.RowKit Go.Maps Go.Proofs.YtdambnclbpipdaaGreatDoorW.PrintWords Go.Proofs.YtdambnclbpipdaaGreatDoor.Hp Go.Proofs.YtdambnclbpipdaaGreatDoor.Va Go.Proofs.YtdambnclbpipdaaGreatDoor.Fm Go.Proofs.YtdambnclbpipdaaGreatDoor.Ma Go.Proofs.YtdambnclbpipdaaGreatDoor.Mb Go.Proofs.YtdambnclbpipdaaGreatDoor.Sga Go.Proofs.YtdambnclbpipdaaGreatDoor.Sgb Go.Proofs.YtdambnclbpipdaaGreatDoor.Sgd Go.Proofs.YtdambnclbpipdaaGreatDoor.Wd Go.Proofs.YtdambnclbpipdaaGreatDoor.Wg Go.Proofs.YtdambnclbpipdaaGreatDoor.Wj Go.Proofs.YtdambnclbpipdaaGreatDoor.We
abbrev nilS : Value := .slice none 0 0
def wds (b : List Int) : List SW := wordsF (splitF 64 b).1
def wer (b : List Int) : Int := (splitF 64 b).2
def ords (l : List SW) (s : List UInt8) : List Int := (l.zipIdx.filter (fun p => p.1.f0.data.toList == s)).map (fun p => (p.2 : Int))
theorem ords_snoc (l : List SW) (x : SW) (s : List UInt8) : ords (l ++ [x]) s = if x.f0.data.toList = s then ords l s ++ [(l.length : Int)] else ords l s := by
  unfold ords
  rw [List.zipIdx_append, List.filter_append, List.map_append]
  by_cases h : x.f0.data.toList = s
  · rw [if_pos h]; simp [h]
  · rw [if_neg h]; simp [h]
theorem ords_len (l : List SW) (s : List UInt8) : (ords l s).length ≤ l.length := by
  unfold ords
  rw [List.length_map]
  exact Nat.le_trans (List.length_filter_le _ _) (by rw [List.length_zipIdx]; exact Nat.le_refl _)
def AtMap (ab : Nat) (l : List SW) (base : Nat) (ok : Nat → Prop) (w : World) : Prop :=
  ∃ (D : DataW Value) (okk : List UInt8 → Nat → Prop), MapV w TSt ab D ∧ base ≤ ab ∧ ok ab ∧ (∀ s, KI.R TI w base (okk s) (vlD nilS D (.string s)) (ords l s)) ∧ (∀ s s' k, s ≠ s' → okk s k → ¬ okk s' k) ∧
    (∀ s k, okk s k → ok k ∧ k ≠ ab) ∧ (∀ s, has D (.string s) = true ↔ ords l s ≠ []) ∧ size D ≤ l.length
def DocAt (a : Nat) (id : Int) (b : List Int) (base : Nat) (ok : Nat → Prop) (w : World) : Prop :=
  ∃ bv wv ab, w.heap[a]? = some (.cells #[.int .i64 id, bv, wv, .map (some ab)] TDoc (0, 0)) ∧ base ≤ a ∧ ok a ∧ KB.R TB w base ok bv b ∧ kW.R TW w base ok wv (wds b) ∧ AtMap ab (wds b) base ok w
section
variable {ab a base : Nat} {l : List SW} {id : Int} {b : List Int} {ok ok' : Nat → Prop} {w w' : World}
theorem AtMap.step (h : AtMap ab l base ok w) (hm : ∀ k, ok k → k < w.heap.size → w'.heap[k]? = w.heap[k]?) : AtMap ab l base ok w' := by
  obtain ⟨D, okk, h1, h2, h3, h4, h5, h6, h7⟩ := h
  exact ⟨D, okk, h1.move (hm ab h3 h1.lt), h2, h3, fun s => Kd.R_step (h4 s) (fun k hk hlt => hm k (h6 s k hk).1 hlt), h5, h6, h7⟩
theorem AtMap.mono (h : AtMap ab l base ok w) (hok : ∀ k, ok k → ok' k) : AtMap ab l base ok' w := by
  obtain ⟨D, okk, h1, h2, h3, h4, h5, h6, h7⟩ := h
  exact ⟨D, okk, h1, h2, hok _ h3, h4, h5, fun s k hk => ⟨hok _ (h6 s k hk).1, (h6 s k hk).2⟩, h7⟩
theorem AtMap.bound (h : AtMap ab l base ok w) : AtMap ab l base (fun k => ok k ∧ k < w.heap.size) w := by
  obtain ⟨D, okk, h1, h2, h3, h4, h5, h6, h7⟩ := h
  exact ⟨D, fun s k => okk s k ∧ k < w.heap.size, h1, h2, ⟨h3, h1.lt⟩, fun s => Kd.R_mono (Kd.R_bound (h4 s)) (fun k hk => ⟨hk.1, hk.2.2.1⟩), fun s s' k hne h8 h9 => h5 s s' k hne h8.1 h9.1, fun s k hk => ⟨⟨(h6 s k hk.1).1, hk.2⟩, (h6 s k hk.1).2⟩, h7⟩
theorem DocAt.step (h : DocAt a id b base ok w) (hm : ∀ k, ok k → k < w.heap.size → w'.heap[k]? = w.heap[k]?) : DocAt a id b base ok w' := by
  obtain ⟨bv, wv, ab, h1, h2, h3, h4, h5, h6⟩ := h
  exact ⟨bv, wv, ab, (hm a h3 (blk_lt h1)).trans h1, h2, h3, Kd.R_step h4 hm, Kd.R_step h5 hm, h6.step hm⟩
theorem DocAt.mono (h : DocAt a id b base ok w) (hok : ∀ k, ok k → ok' k) : DocAt a id b base ok' w := by
  obtain ⟨bv, wv, ab, h1, h2, h3, h4, h5, h6⟩ := h
  exact ⟨bv, wv, ab, h1, h2, hok _ h3, Kd.R_mono h4 hok, Kd.R_mono h5 hok, h6.mono hok⟩
theorem DocAt.bound (h : DocAt a id b base ok w) : DocAt a id b base (fun k => ok k ∧ k < w.heap.size) w := by
  obtain ⟨bv, wv, ab, h1, h2, h3, h4, h5, h6⟩ := h
  exact ⟨bv, wv, ab, h1, h2, ⟨h3, blk_lt h1⟩, Kd.R_mono (Kd.R_bound h4) (fun k hk => ⟨hk.1, hk.2.2.1⟩), Kd.R_mono (Kd.R_bound h5) (fun k hk => ⟨hk.1, hk.2.2.1⟩), h6.bound⟩
theorem DocAt.below (h : DocAt a id b base ok w) (hb : Below w.heap.size w w') : DocAt a id b base ok w' := h.step (fun k _ hlt => hb.block k hlt)
end
def kRun : Kd (Int × Nat) where
  sz := 2
  E := []
  K := fun _ x cs => cs = [.int .i64 x.1, .map (some x.2)]
  M := fun _ _ _ x cs => cs = [.int .i64 x.1, .map (some x.2)]
  K_len := by rintro _ _ _ rfl; rfl
  K_one := by rintro _ _ _ rfl u hu; simp at hu; rcases hu with rfl | rfl <;> rfl
  K_below := fun _ h => h
  K_of_M := fun h => h
  M_mono := fun _ h => h
  M_bound := fun h => h
  M_move := fun _ h => h
  M_lower := fun _ h => h
structure Ix where
  flush : Int
  L : List En
  num : Int
  runs : Nat
  dead : Nat
abbrev ixCells (S : Ix) (bm dm : Nat) (rv : Value) : Array Value := #[.int .i64 S.flush, .map (some bm), rv, .int .i64 S.num, .map (some dm)]
abbrev rns (RS : List Rn) : List (Int × Nat) := RS.map (fun r => (r.n, r.blk))
structure Ix0 (g base : Nat) (S : Ix) (ok okp : Nat → Prop) (w : World) (bm dm : Nat) (rv : Value) (Db Dd : DataW Value) (RS : List Rn) (ad : Int → Nat) : Prop where
  blk : w.heap[g]? = some (.cells (ixCells S bm dm rv) TX (0, 0))
  mb : MapV w TI bm Db
  md : MapV w TGr dm Dd
  row : kRun.R TRun w base (fun k => ok k ∧ k ≠ g) rv (rns RS)
  rm : ∀ r ∈ RS, MapV w TI r.blk r.D
  good : GoodX gk ad S.L S.num Db Dd RS S.dead
  len : RS.length = S.runs
  lo : base ≤ g ∧ base ≤ bm ∧ base ≤ dm ∧ ∀ r ∈ RS, base ≤ r.blk
  oks : ok g ∧ ok bm ∧ ok dm ∧ ∀ r ∈ RS, ok r.blk
  ne : bm ≠ dm ∧ ∀ r ∈ RS, r.blk ≠ bm ∧ r.blk ≠ dm
  docs : ∀ e ∈ S.L, DocAt (ad e.id) e.id e.b base okp w
  dis : ∀ k, ok k → ¬ okp k
  small : S.L.length ≤ 256
  fl : 1 ≤ S.flush ∧ S.flush ≤ 256
  ids : ∀ e ∈ S.L, 0 ≤ e.id ∧ e.id ≤ 2147483647
def IsIdx (g base : Nat) (S : Ix) (ok okp : Nat → Prop) (w : World) : Prop := ∃ bm dm rv Db Dd RS ad, Ix0 g base S ok okp w bm dm rv Db Dd RS ad
section
variable {g base : Nat} {S : Ix} {ok okp ok' okp' : Nat → Prop} {w w' : World} {bm dm : Nat} {rv : Value} {Db Dd : DataW Value} {RS : List Rn} {ad : Int → Nat}
theorem Ix0.step (h : Ix0 g base S ok okp w bm dm rv Db Dd RS ad) (hm : ∀ k, ok k ∨ okp k → k < w.heap.size → w'.heap[k]? = w.heap[k]?) : Ix0 g base S ok okp w' bm dm rv Db Dd RS ad :=
  { h with
    blk := (hm g (.inl h.oks.1) (blk_lt h.blk)).trans h.blk
    mb := h.mb.move (hm bm (.inl h.oks.2.1) h.mb.lt)
    md := h.md.move (hm dm (.inl h.oks.2.2.1) h.md.lt)
    row := Kd.R_step h.row (fun k hk hlt => hm k (.inl hk.1) hlt)
    rm := fun r hr => (h.rm r hr).move (hm r.blk (.inl (h.oks.2.2.2 r hr)) (h.rm r hr).lt)
    docs := fun e he => (h.docs e he).step (fun k hk hlt => hm k (.inr hk) hlt) }
theorem IsIdx.step (h : IsIdx g base S ok okp w) (hm : ∀ k, ok k ∨ okp k → k < w.heap.size → w'.heap[k]? = w.heap[k]?) : IsIdx g base S ok okp w' := by
  obtain ⟨bm, dm, rv, Db, Dd, RS, ad, h⟩ := h
  exact ⟨bm, dm, rv, Db, Dd, RS, ad, h.step hm⟩
theorem IsIdx.below (h : IsIdx g base S ok okp w) (hb : Below w.heap.size w w') : IsIdx g base S ok okp w' := h.step (fun k _ hlt => hb.block k hlt)
theorem Ix0.bound (h : Ix0 g base S ok okp w bm dm rv Db Dd RS ad) : Ix0 g base S (fun k => ok k ∧ k < w.heap.size) (fun k => okp k ∧ k < w.heap.size) w bm dm rv Db Dd RS ad :=
  { h with
    row := Kd.R_mono (Kd.R_bound h.row) (fun k hk => ⟨⟨hk.1.1, hk.2.2.1⟩, hk.1.2⟩)
    oks := ⟨⟨h.oks.1, blk_lt h.blk⟩, ⟨h.oks.2.1, h.mb.lt⟩, ⟨h.oks.2.2.1, h.md.lt⟩, fun r hr => ⟨h.oks.2.2.2 r hr, (h.rm r hr).lt⟩⟩
    docs := fun e he => (h.docs e he).bound
    dis := fun k hk hk2 => h.dis k hk.1 hk2.1 }
theorem IsIdx.bound (h : IsIdx g base S ok okp w) : IsIdx g base S (fun k => ok k ∧ k < w.heap.size) (fun k => okp k ∧ k < w.heap.size) w := by
  obtain ⟨bm, dm, rv, Db, Dd, RS, ad, h⟩ := h
  exact ⟨bm, dm, rv, Db, Dd, RS, ad, h.bound⟩
theorem Ix0.lt (h : Ix0 g base S ok okp w bm dm rv Db Dd RS ad) : g < w.heap.size ∧ bm < w.heap.size ∧ dm < w.heap.size := ⟨blk_lt h.blk, h.mb.lt, h.md.lt⟩
theorem Ix0.g_ne (h : Ix0 g base S ok okp w bm dm rv Db Dd RS ad) : bm ≠ g ∧ dm ≠ g ∧ ∀ r ∈ RS, r.blk ≠ g := by
  have hb := h.blk
  refine ⟨?_, ?_, fun r hr => ?_⟩
  · rintro rfl; obtain ⟨es, c, h1, _⟩ := h.mb; rw [h1] at hb; cases hb
  · rintro rfl; obtain ⟨es, c, h1, _⟩ := h.md; rw [h1] at hb; cases hb
  · rintro e; obtain ⟨es, c, h1, _⟩ := h.rm r hr; rw [e, hb] at h1; cases h1
end
end Go.Proofs.YtdambnclbpipdaaGreatDoor.Mc
namespace Go.Proofs.YtdambnclbpipdaaGreatDoor.Md
set_option linter.unusedVariables false
set_option linter.unusedSimpArgs false
open Go.RowKit Go.Maps Go.Proofs.YtdambnclbpipdaaGreatDoorW.PrintWords Go.Proofs.YtdambnclbpipdaaGreatDoor.Hp Go.Proofs.YtdambnclbpipdaaGreatDoor.Fm Go.Proofs.YtdambnclbpipdaaGreatDoor.Ma Go.Proofs.YtdambnclbpipdaaGreatDoor.Mb Go.Proofs.YtdambnclbpipdaaGreatDoor.Mc
theorem NewBad (w : World) (f : Int) (hf : f < 1 ∨ 256 < f) : Calls Tryz.prog 16 #[.int .i64 f] w fun e w' => e = .returned (.tuple #[np, .int .i64 1]) ∧ w = w' := by
  have hmm := @run_makeMap Tryz.prog
  by_cases h1 : f < 1
  · have d1 : decide (f < 1) = true := decide_eq_true h1
    go_enter Tryz.func16, Tryz.ntmps16
    go_wp2
    go_ret2
    exact ⟨rfl, rfl⟩
  · have d1 : decide (f < 1) = false := decide_eq_false h1
    have d2 : decide (256 < f) = true := decide_eq_true (by omega)
    go_enter Tryz.func16, Tryz.ntmps16
    go_wp2
    go_ret2
    exact ⟨rfl, rfl⟩
theorem ix_new (w : World) (f : Int) (h1 : 1 ≤ f) (h2 : f ≤ 256) : IsIdx (w.heap.size + 2) w.heap.size ⟨f, [], 0, 0, 0⟩ (fun k => w.heap.size ≤ k) (fun _ => False) (((w.alloc (.map #[] 0)).alloc (.map #[] 0)).alloc (.cells (ixCells ⟨f, [], 0, 0, 0⟩ w.heap.size (w.heap.size + 1) nilS) TX)) := by
  have e1 : (w.alloc (.map #[] 0)).heap.size = w.heap.size + 1 := by simp
  have e2 : ((w.alloc (.map #[] 0)).alloc (.map #[] 0)).heap.size = w.heap.size + 2 := by simp
  have m1 := MapV.new w TI
  have m2 := MapV.new (w.alloc (.map #[] 0)) TGr
  rw [e1] at m2
  have b1 := below_alloc (Below.refl (w.alloc (.map #[] 0)).heap.size (w.alloc (.map #[] 0))) (.map #[] 0)
  have b2 := below_alloc (Below.refl ((w.alloc (.map #[] 0)).alloc (.map #[] 0)).heap.size ((w.alloc (.map #[] 0)).alloc (.map #[] 0))) (.cells (ixCells ⟨f, [], 0, 0, 0⟩ w.heap.size (w.heap.size + 1) nilS) TX)
  have hb := heap_alloc_new ((w.alloc (.map #[] 0)).alloc (.map #[] 0)) (.cells (ixCells ⟨f, [], 0, 0, 0⟩ w.heap.size (w.heap.size + 1) nilS) TX)
  rw [e2] at hb
  exact ⟨w.heap.size, w.heap.size + 1, nilS, .map [], .map [], [], fun _ => 0,
    { blk := hb
      mb := (m1.below b1).below b2
      md := m2.below b2
      row := Kd.R_nil _ _ _ _ _
      rm := fun r hr => by cases hr
      good := good_new _ _
      len := rfl
      lo := ⟨by omega, by omega, by omega, fun r hr => by cases hr⟩
      oks := ⟨by omega, by omega, by omega, fun r hr => by cases hr⟩
      ne := ⟨by omega, fun r hr => by cases hr⟩
      docs := fun e he => by cases he
      dis := fun _ _ h => h
      small := Nat.zero_le _
      fl := ⟨h1, h2⟩
      ids := fun e he => by cases he }⟩
theorem New (w : World) (f : Int) (h1 : 1 ≤ f) (h2 : f ≤ 256) : Calls Tryz.prog 16 #[.int .i64 f] w fun e w' => ∃ g, e = .returned (.tuple #[at0 g, .int .i64 0]) ∧ w.heap.size ≤ g ∧
    IsIdx g w.heap.size ⟨f, [], 0, 0, 0⟩ (fun k => w.heap.size ≤ k) (fun _ => False) w' ∧ Below w.heap.size w w' := by
  have hmm := @run_makeMap Tryz.prog
  have hx := Aside0.mk (ix_new w f h1 h2)
  have hfin : ∃ g, (.returned (.tuple #[at0 (w.heap.size + 2), .int .i64 0]) : Ending) = .returned (.tuple #[at0 g, .int .i64 0]) ∧ w.heap.size ≤ g ∧
    IsIdx g w.heap.size ⟨f, [], 0, 0, 0⟩ (fun k => w.heap.size ≤ k) (fun _ => False) (((w.alloc (.map #[] 0)).alloc (.map #[] 0)).alloc (.cells (ixCells ⟨f, [], 0, 0, 0⟩ w.heap.size (w.heap.size + 1) nilS) TX)) ∧ Below w.heap.size w (((w.alloc (.map #[] 0)).alloc (.map #[] 0)).alloc (.cells (ixCells ⟨f, [], 0, 0, 0⟩ w.heap.size (w.heap.size + 1) nilS) TX)) :=
    ⟨_, rfl, by omega, hx.out, below_alloc (below_alloc (below_alloc (Below.refl _ _) _) _) _⟩
  have HFIN := Aside0.mk hfin
  clear hfin hx
  have d1 : decide (f < 1) = false := decide_eq_false (by omega)
  have d2 : decide (256 < f) = false := decide_eq_false (by omega)
  go_enter Tryz.func16, Tryz.ntmps16
  go_wp2
  go_ret2
  exact HFIN.out
section
variable (w : World) (g base : Nat) (S : Ix) (ok okp : Nat → Prop)
theorem RunsP (h : IsIdx g base S ok okp w) : Calls Tryz.prog 28 #[at0 g] w fun e w' => e = .returned (.int .i64 (S.runs : Int)) ∧ w = w' := by
  obtain ⟨bm, dm, rv, Db, Dd, RS, ad, h⟩ := h
  obtain ⟨A, c, hrv⟩ := Kd.R_slice h.row
  have hl : (rns RS).length = S.runs := by rw [List.length_map]; exact h.len
  rw [hl] at hrv
  have c2 : w.cell? ⟨g, 2, none⟩ = some (.slice A S.runs c) := by rw [← hrv]; simp [World.cell?, h.blk]
  clear h hrv hl
  go_enter Tryz.func28, Tryz.ntmps28
  go_wp2
  go_ret
  exact ⟨rfl, rfl⟩
theorem BufferedP (h : IsIdx g base S ok okp w) : Calls Tryz.prog 29 #[at0 g] w fun e w' => e = .returned (.int .i64 (cntB S.L : Int)) ∧ w = w' := by
  obtain ⟨bm, dm, rv, Db, Dd, RS, ad, h⟩ := h
  have c1 : w.cell? ⟨g, 1, none⟩ = some (.map (some bm)) := by simp [World.cell?, h.blk]
  have HM := Aside0.mk h.mb
  have HS := Aside0.mk h.good.sb
  clear h
  go_enter Tryz.func29, Tryz.ntmps29
  go_wp2_with (first | (at_len; refine wp_len rfl _ 89 rfl _ _ Tryz.underlying89 bm Db rfl HM.out ?_) | go_in)
  go_ret
  rw [HS.out]
  exact ⟨rfl, rfl⟩
theorem DeadP (h : IsIdx g base S ok okp w) : Calls Tryz.prog 31 #[at0 g] w fun e w' => e = .returned (.int .i64 (S.dead : Int)) ∧ w = w' := by
  obtain ⟨bm, dm, rv, Db, Dd, RS, ad, h⟩ := h
  have c1 : w.cell? ⟨g, 4, none⟩ = some (.map (some dm)) := by simp [World.cell?, h.blk]
  have HM := Aside0.mk h.md
  have HS := Aside0.mk h.good.sd
  clear h
  go_enter Tryz.func31, Tryz.ntmps31
  go_wp2_with (first | (at_len; refine wp_len rfl _ 90 rfl _ _ Tryz.underlying90 dm Dd rfl HM.out ?_) | go_in)
  go_ret
  rw [HS.out]
  exact ⟨rfl, rfl⟩
end
end Go.Proofs.YtdambnclbpipdaaGreatDoor.Md
namespace Go.Proofs.YtdambnclbpipdaaGreatDoor.Me
set_option linter.unusedVariables false
set_option linter.unusedSimpArgs false
open Go.RowKit Go.Maps Go.Proofs.YtdambnclbpipdaaGreatDoorW.PrintWords Go.Proofs.YtdambnclbpipdaaGreatDoor.Hp Go.Proofs.YtdambnclbpipdaaGreatDoor.Fm Go.Proofs.YtdambnclbpipdaaGreatDoor.Ma Go.Proofs.YtdambnclbpipdaaGreatDoor.Mb Go.Proofs.YtdambnclbpipdaaGreatDoor.Mc
theorem runAt {w : World} {A : Option Addr} {n : Nat} {l : List (Int × Nat)} (h : kRun.C w A n l) (k : Nat) (hk : k < n) (hl : k < l.length) :
    ∃ a, A = some a ∧ w.cell? (a.add (k * 2)) = some (.int .i64 l[k].1) ∧ w.cell? ⟨(a.add (k * 2)).block, (a.add (k * 2)).off + 1, none⟩ = some (.map (some l[k].2)) := by
  obtain ⟨a, c, hA, -, hc, hcell⟩ := ReadsRow.get_ h (0, 0) (k : Int) (by omega) (by omega)
  have hc : c = [.int .i64 (l.getD k (0, 0)).1, .map (some (l.getD k (0, 0)).2)] := hc
  have hg : l.getD k (0, 0) = l[k] := by simp [List.getD_eq_getElem?_getD, List.getElem?_eq_getElem hl]
  rw [hg] at hc
  refine ⟨a, hA, hcell 0 _ (by rw [hc]; rfl), ?_⟩
  have := hcell 1 _ (by rw [hc]; rfl)
  rw [add_field _ _ _ (by decide)] at this
  exact this
theorem less_ {n k : Nat} {x : Int} (hx : x = (k : Int) + 1) (hk : k < n) : n - (intOf (.int .i64 x)).toNat < n - (intOf (.int .i64 k)).toNat := by
  subst hx
  simp only [intOf]
  omega
def runOf (o : Option En) : Int := match o with | some e => if e.run = 0 then -1 else e.run | none => -1
section
variable {g base : Nat} {S : Ix} {ok okp : Nat → Prop} {w : World} {bm dm : Nat} {rv : Value} {Db Dd : DataW Value} {RS : List Rn} {ad : Int → Nat}
theorem find_none (h : GoodX gk ad S.L S.num Db Dd RS S.dead) {id : Int} (h0 : pfE ad (atE S.L id) 0 = np) (hr : ∀ r ∈ RS, pfE ad (atE S.L id) r.n = np) : atE S.L id = none := by
  cases he : atE S.L id with
  | none => rfl
  | some e =>
    rw [he] at h0 hr
    rcases h.ex e (atE_mem he).1 with h1 | ⟨r, h1, h2⟩
    · simp [pfE, h1] at h0
    · have := hr r h1
      simp [pfE, h2] at this
theorem found_no {k : Nat} {r : Rn} {o : Option En} (h : ∀ r ∈ RS.take k, pfE ad o r.n = np) (hr : RS[k]? = some r) (h2 : pfE ad o r.n = np) : ∀ r ∈ RS.take (k + 1), pfE ad o r.n = np := by
  obtain ⟨hk, rfl⟩ := List.getElem?_eq_some_iff.1 hr
  intro x hx
  rw [List.take_succ_eq_append_getElem hk] at hx
  rcases List.mem_append.1 hx with hx | hx
  · exact h x hx
  · obtain rfl := List.mem_singleton.1 hx
    exact h2
theorem found_yes (h : GoodX gk ad S.L S.num Db Dd RS S.dead) {r : Rn} {id : Int} {a : Nat} (hr : 1 ≤ r.n) (h2 : pfE ad (atE S.L id) r.n = at0 a) : lvE ad (atE S.L id) = at0 a ∧ runOf (atE S.L id) = r.n := by
  cases he : atE S.L id with
  | none => rw [he] at h2; cases h2
  | some e =>
    rw [he] at h2
    unfold pfE at h2
    simp only at h2
    split at h2
    · rename_i e1
      refine ⟨h2, ?_⟩
      unfold runOf
      simp only
      rw [if_neg (by omega)]
      exact e1
    · exact absurd h2.symm (at0_ne a)
set_option maxRecDepth 100000 in
set_option maxHeartbeats 4000000 in
theorem findP (w : World) (h : Ix0 g base S ok okp w bm dm rv Db Dd RS ad) (hnw : ∀ r ∈ RS, (Lit.int .i64 r.n).wf = true) (id : Int) (hid : (Lit.int .i64 id).wf = true) :
    Calls Tryz.prog 53 #[at0 g, .int .i64 id] w fun e w' => e = .returned (.tuple #[lvE ad (atE S.L id), .int .i64 (runOf (atE S.L id))]) ∧ Below w.heap.size w w' := by
  obtain ⟨A, c, hrv, hnc, hC⟩ := Kd.R_reads h.row
  obtain ⟨n, hn⟩ : ∃ n, n = RS.length := ⟨_, rfl⟩
  have hl : (rns RS).length = n := by rw [List.length_map, hn]
  rw [hl] at hrv hnc hC
  have c1 : w.cell? ⟨g, 1, none⟩ = some (.map (some bm)) := by simp [World.cell?, h.blk]
  have c2 : w.cell? ⟨g, 2, none⟩ = some (.slice A n c) := by rw [← hrv]; simp [World.cell?, h.blk]
  have c4 : w.cell? ⟨g, 4, none⟩ = some (.map (some dm)) := by simp [World.cell?, h.blk]
  have hk := keyOf_int_mk Tryz.underlying3 hid
  have HX := Aside0.mk h
  have HC := Aside0.mk hC
  have HN := Aside0.mk hn
  have hb0 := h.good.buf id
  obtain ⟨L, hL⟩ : ∃ L, L = S.L := ⟨_, rfl⟩
  have hzz : ∀ W, (zeroValue 94).run Tryz.prog W = .ok np W := fun W => by kernel_rfl
  have hz := hzz w
  have hzi : ∀ W, (zeroValue 3).run Tryz.prog W = .ok (.int .i64 0) W := fun W => by kernel_rfl
  have HNW := Aside0.mk hnw
  clear hrv hnc hC hn hnw
  by_cases hrun : ∃ e, atE S.L id = some e ∧ e.run = 0
  · obtain ⟨e, he, hr⟩ := hrun
    have hv : vlD np Db (ik id) = at0 (ad e.id) := by rw [hb0, he]; simp [pfE, hr]
    have hfin : lvE ad (atE S.L id) = at0 (ad e.id) ∧ runOf (atE S.L id) = -1 := by rw [he]; simp [lvE, runOf, hr]
    have HFIN := Aside0.mk hfin
    clear h hb0 he hr hfin
    have HV := Aside0.mk hv
    clear hv
    go_enter Tryz.func53, Tryz.ntmps53
    go_wp2_with (first | (at_lookup; refine wp_look rfl _ _ 89 rfl _ _ keyI Tryz.underlying89 np hz bm Db rfl HX.out.mb _ _ rfl hk ?_; rw [HV.out]) | go_in)
    go_ret2
    rw [HFIN.out.1, HFIN.out.2]
    exact ⟨rfl, Below.refl _ _⟩
  · have hv : vlD np Db (ik id) = np := by
      rw [hb0]
      cases he : atE S.L id with
      | none => rfl
      | some e => exact if_neg (fun hr => hrun ⟨e, he, hr⟩)
    have HV := Aside0.mk hv
    rw [hv] at hb0
    have HB0 := Aside0.mk hb0
    clear h hb0 hv hrun
    go_enter Tryz.func53, Tryz.ntmps53
    go_wp2_with (first | (at_lookup; refine wp_look rfl _ _ 89 rfl _ _ keyI Tryz.underlying89 np hz bm Db rfl HX.out.mb _ _ rfl hk ?_; rw [HV.out]) | go_in)
    go_loopw [26] (fun v wr => ∃ k : Nat, v = .int .i64 k ∧ k ≤ n ∧ Aside0 (Below w.heap.size w wr) ∧ Aside0 (∀ r ∈ RS.take k, pfE ad (atE S.L id) r.n = np)) (fun v _ => n - (intOf v).toNat)
    case atStart => exact ⟨0, rfl, Nat.zero_le _, ⟨Below.refl _ _⟩, ⟨by simp⟩⟩
    case round =>
      obtain ⟨k, rfl, hkn, HB, HT⟩ := hrel
      by_cases hlt : k < n
      · have hd : decide ((k : Int) < (n : Int)) = true := decide_eq_true (by omega)
        have hd2 : decide (k < n) = true := decide_eq_true hlt
        have hkl : k < RS.length := by have := HN.out; omega
        obtain ⟨r, hr⟩ : ∃ r, RS[k]? = some r := ⟨RS[k], List.getElem?_eq_getElem hkl⟩
        have hrm : r ∈ RS := List.mem_of_getElem? hr
        obtain ⟨a, rfl, x0, x1⟩ := runAt HC.out k hlt (by omega)
        have e1 : (rns RS)[k]'(by omega) = (r.n, r.blk) := by
          have h2 : RS[k] = r := by rw [List.getElem?_eq_getElem hkl] at hr; injection hr
          simp [rns, h2]
        rw [e1] at x0 x1
        simp only at x0 x1
        have x0 := pw_cell_below HB.out x0
        have x1 := pw_cell_below HB.out x1
        have hw : wrap64 ((k : Int) + 1) = (k : Int) + 1 := by have := HC.out.2.1; unfold wrap64; omega
        have HR := Aside0.mk hr
        have HRM := Aside0.mk hrm
        have hbw : Below w.heap.size w (wr.alloc (.cells #[.int .i64 r.n, .map (some r.blk)] TRun)) := below_alloc HB.out _
        have HBW := Aside0.mk hbw
        have l1 := ((HX.out.rm r hrm).below hbw).look keyI Tryz.underlying89 (hzz _) hk
        have hru := HX.out.good.run r hrm id
        have hnn := HX.out.good.nnr r hrm id
        have hone := HX.out.good.one (gk r.n id)
        have l2 : ∀ nq, (Instr.lookup 90 (.map (some dm)) (.agg #[.int .i64 r.n, .int .i64 id]) false).run Tryz.prog ((wr.alloc (.cells #[.int .i64 r.n, .map (some r.blk)] TRun)).drewN nq) = .ok (oneV (has Dd (gk r.n id))) ((wr.alloc (.cells #[.int .i64 r.n, .map (some r.blk)] TRun)).drewN nq) := by
          intro nq
          rw [← hone]
          exact (HX.out.md.below (pw_below_drewN hbw nq)).look keyG Tryz.underlying90 (hzi _) (gk_key r.n id (HNW.out r hrm) hid)
        have y4 := pw_cell_below hbw c4
        have y4n : ∀ nq, ((wr.alloc (.cells #[.int .i64 r.n, .map (some r.blk)] TRun)).drewN nq).cell? ⟨g, 4, none⟩ = some (.map (some dm)) := fun nq => pw_cell_below (pw_below_drewN hbw nq) c4
        clear hr hrm e1 hkl hbw hone
        cases hh : has r.D (ik id) with
        | false => as_aux_lemma =>
          have hv1 := vl_none (z := np) hh
          rw [hv1] at l1 hru
          rw [ite_self] at hru
          have HRU := Aside0.mk hru
          clear hnn hh hv1 l2 hru
          go_upto_region 10 with (fail)
          go_quiet (fail)
          go_wp2
          go_roundw
          case rel => exact ⟨k + 1, by go_num, by omega, ⟨pw_below_drewN HBW.out nq⟩, ⟨found_no HT.out HR.out HRU.out.symm⟩⟩
          case measure => exact less_ hw hlt
        | true =>
          obtain ⟨a1, hv1⟩ := hnn hh
          rw [hv1] at l1 hru
          cases hd9 : has Dd (gk r.n id) with
          | true => as_aux_lemma =>
            rw [hd9] at l2 hru
            have HRU := Aside0.mk hru
            clear hnn hh hv1 hru hd9
            go_upto_region 10 with (fail)
            go_quiet (fail)
            go_wp2
            go_roundw
            case rel => exact ⟨k + 1, by go_num, by omega, ⟨pw_below_drewN HBW.out nq⟩, ⟨found_no HT.out HR.out HRU.out.symm⟩⟩
            case measure => exact less_ hw hlt
          | false => as_aux_lemma =>
            rw [hd9] at l2 hru
            have HFIN := Aside0.mk (found_yes HX.out.good (HX.out.good.rng r HRM.out).1 hru.symm)
            clear hnn hh hv1 hru hd9
            go_upto_region 10 with (fail)
            go_quiet (fail)
            go_wp2
            go_quiet (fail)
            go_wp2
            go_ret2
            rw [HFIN.out.1, HFIN.out.2]
            exact ⟨rfl, pw_below_drewN (pw_below_drewN HBW.out _) _⟩
      · have hd : decide ((k : Int) < (n : Int)) = false := decide_eq_false (by omega)
        have hd2 : decide (k < n) = false := decide_eq_false hlt
        have HFIN := Aside0.mk (find_none HX.out.good HB0.out.symm (fun r hr => HT.out r (by rw [List.take_of_length_le (by have := HN.out; omega)]; exact hr)))
        go_wp2
        go_ret2
        rw [HFIN.out]
        exact ⟨rfl, HB.out⟩
end
end Go.Proofs.YtdambnclbpipdaaGreatDoor.Me
namespace Go.Proofs.YtdambnclbpipdaaGreatDoor.Mg
set_option linter.unusedVariables false
set_option linter.unusedSimpArgs false
open Go.Maps Go.Proofs.YtdambnclbpipdaaGreatDoor.Ma Go.Proofs.YtdambnclbpipdaaGreatDoor.Mb
def lqE (Q : En → Bool) (ad : Int → Nat) (o : Option En) : Value := match o with | some e => if Q e = true then at0 (ad e.id) else np | none => np
def LvQ (Q : En → Bool) (ad : Int → Nat) (L : List En) (D : DataW Value) : Prop := (∀ id, vlD np D (ik id) = lqE Q ad (atE L id)) ∧ NN D
section
variable {Q Q' : En → Bool} {ad : Int → Nat} {L : List En} {D Dd Db : DataW Value} {num : Int} {RS : List Rn} {dead : Nat} {w : World} {b : Nat}
theorem LvQ.congr (h : LvQ Q ad L D) (hQ : ∀ e ∈ L, Q e = Q' e) : LvQ Q' ad L D := by
  refine ⟨fun id => ?_, h.2⟩
  rw [h.1]
  cases he : atE L id with
  | none => rfl
  | some e => unfold lqE; simp only; rw [hQ e (atE_mem he).1]
theorem lq_ne (Q : En → Bool) (ad : Int → Nat) (L : List En) (hs : Srt L) (x : Int) : lqE Q ad (atE L x) ≠ np ↔ x ∈ (L.filter Q).map (·.id) := by
  constructor
  · intro h
    cases he : atE L x with
    | none => rw [he] at h; exact absurd rfl h
    | some e =>
      rw [he] at h
      unfold lqE at h
      simp only at h
      split at h
      · rename_i hq
        exact List.mem_map.2 ⟨e, List.mem_filter.2 ⟨(atE_mem he).1, hq⟩, (atE_mem he).2⟩
      · exact absurd rfl h
  · intro h
    obtain ⟨e, he, rfl⟩ := List.mem_map.1 h
    obtain ⟨h1, h2⟩ := List.mem_filter.1 he
    rw [srt_at hs h1]
    unfold lqE
    simp only
    rw [if_pos h2]
    exact at0_ne _
theorem LvQ.has (h : LvQ Q ad L D) (hs : Srt L) (x : Int) : x ∈ (L.filter Q).map (·.id) ↔ Go.Maps.has D (ik x) = true := by
  rw [← lq_ne Q ad L hs, ← h.1]
  constructor
  · intro h1
    cases hh : Go.Maps.has D (ik x)
    · exact absurd (vl_none hh) h1
    · rfl
  · exact h.2.ne
theorem LvQ.keys (h : LvQ Q ad L D) (hs : Srt L) (hM : MapV w TI b D) : ((L.filter Q).map (·.id)).Perm (intKeys D) := by
  obtain ⟨es, hD, hpw⟩ := hM.tidy keyI
  subst hD
  refine perm_intKeys hpw (fun p hp => ?_) ?_ (fun x => h.has hs x)
  · have : Go.Maps.has (.map es) p.1 = true := by
      rw [has_eq, List.any_eq_true]
      refine ⟨p, hp, ?_⟩
      obtain ⟨es', hD', hko⟩ := World.ownsMap.keysOf hM
      injection hD' with hD'
      subst hD'
      obtain ⟨v, hv⟩ := hko p hp
      exact WideAt.sameKey_self (keyI.key hv)
    obtain ⟨x, hx, _⟩ := hM.int_key this
    exact ⟨x, hx⟩
  · rw [List.nodup_iff_pairwise_ne, List.pairwise_map]
    exact (hs.filter _).imp (fun h e => by omega)
theorem LvQ.size (h : LvQ Q ad L D) (hs : Srt L) (hM : MapV w TI b D) : size D = (L.filter Q).length := by
  have h1 := (h.keys hs hM).length_eq
  obtain ⟨es, hD, _⟩ := hM.tidy keyI
  subst hD
  rw [List.length_map] at h1
  rw [h1]
  simp [intKeys, size]
theorem LvQ.start (h : GoodX gk ad L num Db Dd RS dead) : LvQ (fun e => decide (e.run = 0)) ad L Db := by
  refine ⟨fun id => ?_, h.nnb⟩
  rw [h.buf]
  unfold pfE lqE
  cases atE L id <;> simp
def qIn (P : En → Bool) (n : Int) (left : Lit → Bool) (e : En) : Bool := P e || (decide (e.run = n) && !left (ik e.id))
theorem LvQ.enter {P : En → Bool} (h : LvQ P ad L D) {r : Rn} (hr : r ∈ RS) (hG : GoodX gk ad L num Db Dd RS dead) : LvQ (qIn P r.n (Go.Maps.has r.D)) ad L D := by
  refine h.congr fun e he => ?_
  unfold qIn
  by_cases hn : e.run = r.n
  · have h1 := hG.run r hr e.id
    rw [srt_at hG.srt he] at h1
    have h2 : Go.Maps.has r.D (ik e.id) = true := by
      cases hh : Go.Maps.has r.D (ik e.id)
      · rw [vl_none hh, ite_self] at h1
        simp [pfE, hn] at h1
      · rfl
    rw [h2]; simp
  · simp [hn]
theorem LvQ.skip {P : En → Bool} {left : Lit → Bool} {r : Rn} {x : Int} (h : LvQ (qIn P r.n left) ad L D) (hr : r ∈ RS) (hG : GoodX gk ad L num Db Dd RS dead) (hd : Go.Maps.has Dd (gk r.n x) = true) :
    LvQ (qIn P r.n (fun z => left z && !z.sameKey (ik x))) ad L D := by
  refine h.congr fun e he => ?_
  unfold qIn
  by_cases hn : e.run = r.n
  · have hx : e.id ≠ x := by
      rintro rfl
      have h1 := hG.run r hr e.id
      rw [srt_at hG.srt he, hd] at h1
      simp [pfE, hn] at h1
    have : (ik e.id).sameKey (ik x) = false := sameKey_ne (ik_ne hx)
    simp [this]
  · simp [hn]
theorem LvQ.lay {P : En → Bool} {left : Lit → Bool} {r : Rn} {x : Int} (h : LvQ (qIn P r.n left) ad L D) (hD : IsMap D) (hr : r ∈ RS) (hG : GoodX gk ad L num Db Dd RS dead) (hd : Go.Maps.has Dd (gk r.n x) = false) (hx : Go.Maps.has r.D (ik x) = true) :
    LvQ (qIn P r.n (fun z => left z && !z.sameKey (ik x))) ad L (D.put (ik x) (.held (vlD np r.D (ik x)))) := by
  have h1 := hG.run r hr x
  rw [hd] at h1
  simp only [Bool.false_eq_true, if_false] at h1
  obtain ⟨a, ha⟩ := hG.nnr r hr x hx
  obtain ⟨e0, he0, hrun⟩ := pf_ne.1 (show pfE ad (atE L x) r.n ≠ np by rw [← h1, ha]; exact at0_ne a)
  have hid := (atE_mem he0).2
  have hv : vlD np r.D (ik x) = at0 (ad e0.id) := by rw [h1, he0]; simp [pfE, hrun]
  refine ⟨fun id => ?_, fun id hh => ?_⟩
  · by_cases e : id = x
    · subst e
      rw [vl_put hD (ikl _), hv, he0]
      unfold lqE qIn
      have : (ik e0.id).sameKey (ik id) = true := by rw [hid]; simp [Lit.sameKey]
      simp [hrun, this]
    · rw [vl_put_ne (ik_ne e), h.1]
      cases he : atE L id with
      | none => rfl
      | some e1 =>
        have hid1 := (atE_mem he).2
        have : (ik e1.id).sameKey (ik x) = false := sameKey_ne (ik_ne (by rw [hid1]; exact e))
        unfold lqE qIn
        simp only [this]
        simp
  · by_cases e : id = x
    · subst e
      exact ⟨_, (vl_put hD (ikl _)).trans hv⟩
    · rw [has_put_other (ik_ne e)] at hh
      obtain ⟨a, h2⟩ := h.2 id hh
      exact ⟨a, by rw [vl_put_ne (ik_ne e)]; exact h2⟩
def pRuns (RS : List Rn) (k : Nat) (e : En) : Bool := decide (e.run = 0) || (RS.take k).any (fun r => decide (e.run = r.n))
theorem LvQ.first (h : GoodX gk ad L num Db Dd RS dead) : LvQ (pRuns RS 0) ad L Db := (LvQ.start h).congr fun e _ => by simp [pRuns]
theorem LvQ.next {k : Nat} {r : Rn} {left : Lit → Bool} (h : LvQ (qIn (pRuns RS k) r.n left) ad L D) (hr : RS[k]? = some r) (hl : ∀ kl, left kl = false) : LvQ (pRuns RS (k + 1)) ad L D := by
  refine h.congr fun e _ => ?_
  obtain ⟨hk, rfl⟩ := List.getElem?_eq_some_iff.1 hr
  unfold qIn pRuns
  rw [List.take_succ_eq_append_getElem hk, List.any_append, hl]
  simp [Bool.or_assoc]
theorem LvQ.done (h : LvQ (pRuns RS RS.length) ad L D) (hG : GoodX gk ad L num Db Dd RS dead) : LiveX ad L D := by
  refine ⟨fun id => ?_, h.2⟩
  rw [h.1]
  cases he : atE L id with
  | none => rfl
  | some e =>
    have : pRuns RS RS.length e = true := by
      unfold pRuns
      rw [List.take_length]
      rcases hG.ex e (atE_mem he).1 with h1 | ⟨r, h1, h2⟩
      · simp [h1]
      · simp only [Bool.or_eq_true, List.any_eq_true]
        exact .inr ⟨r, h1, by simp [h2]⟩
    unfold lqE lvE
    simp only
    rw [if_pos this]
theorem live_q (h : LiveX ad L D) : LvQ (fun _ => true) ad L D := by
  refine ⟨fun id => ?_, h.2⟩
  rw [h.1]
  unfold lqE lvE
  cases atE L id <;> rfl
theorem live_size (h : LiveX ad L D) (hs : Srt L) (hM : MapV w TI b D) : size D = L.length := by
  rw [(live_q h).size hs hM, List.filter_eq_self.2 (fun _ _ => rfl)]
theorem live_keys (h : LiveX ad L D) (hs : Srt L) (hM : MapV w TI b D) : (L.map (·.id)).Perm (intKeys D) := by
  have := (live_q h).keys hs hM
  rwa [List.filter_eq_self.2 (fun _ _ => rfl)] at this
end
end Go.Proofs.YtdambnclbpipdaaGreatDoor.Mg
namespace Go.Proofs.YtdambnclbpipdaaGreatDoor.Mfl
set_option linter.unusedVariables false
set_option linter.unusedSimpArgs false
open Go.Shelf Go.Proofs
def cloneL_ren : Go.Shelf.Ren := ⟨fun | 5 => 76 | 7 => 90 | n => n, fun | 23 => 89 | 25 => 3 | 3 => 94 | 4 => 4 | 20 => 20 | n => n, fun | n => n⟩
theorem cloneL : Go.Proofs.SlLaysW.n5 Tryz.prog cloneL_ren := {
  mixed := by kernel_rfl
  f5 := ⟨Tryz.f76.name, by decide, Tryz.func76.trans (congrArg some (by kernel_rfl))⟩
  f7 := Tryz.func90.trans (congrArg some (by kernel_rfl))
  t4 := Tryz.underlying4
  a4 := Tryz.isAgg4
  z4 := Tryz.sizeOf4
  v4 := Tryz.zeroValue4
  t20 := Tryz.underlying20
  a20 := Tryz.isAgg20
  z20 := Tryz.sizeOf20
  v20 := Tryz.zeroValue20
  t23 := Tryz.underlying89
  a23 := Tryz.isAgg89
  z23 := Tryz.sizeOf89
  v23 := Tryz.zeroValue89 }
def keysI_ren : Go.Shelf.Ren := ⟨fun | 7 => 58 | 10 => 81 | n => n, fun | 23 => 89 | 26 => 3 | 3 => 94 | 28 => 108 | 0 => 0 | 27 => 107 | 33 => 142 | 4 => 4 | n => n, fun | n => n⟩
theorem keysI : Go.Proofs.SlLaysZI.n7 Tryz.prog keysI_ren := {
  mixed := by kernel_rfl
  f7 := ⟨Tryz.f58.name, by decide, Tryz.func58.trans (congrArg some (by kernel_rfl))⟩
  f10 := ⟨Tryz.f81.name, by decide, Tryz.func81.trans (congrArg some (by kernel_rfl))⟩
  t0 := Tryz.underlying0
  a0 := Tryz.isAgg0
  z0 := Tryz.sizeOf0
  v0 := Tryz.zeroValue0
  t4 := Tryz.underlying4
  a4 := Tryz.isAgg4
  z4 := Tryz.sizeOf4
  v4 := Tryz.zeroValue4
  t23 := Tryz.underlying89
  a23 := Tryz.isAgg89
  z23 := Tryz.sizeOf89
  v23 := Tryz.zeroValue89
  t26 := Tryz.underlying3
  a26 := Tryz.isAgg3
  z26 := Tryz.sizeOf3
  v26 := Tryz.zeroValue3
  t27 := Tryz.underlying107
  a27 := Tryz.isAgg107
  z27 := Tryz.sizeOf107
  v27 := Tryz.zeroValue107
  t28 := Tryz.underlying108
  a28 := Tryz.isAgg108
  z28 := Tryz.sizeOf108
  v28 := Tryz.zeroValue108
  t33 := Tryz.underlying142
  a33 := Tryz.isAgg142
  z33 := Tryz.sizeOf142
  v33 := Tryz.zeroValue142 }
def sortedI_ren : Go.Shelf.Ren := ⟨fun | 6 => 57 | 8 => 79 | 9 => 80 | 11 => 96 | 13 => 98 | 12 => 97 | 23 => 126 | 24 => 127 | 14 => 117 | 15 => 118 | 16 => 119 | 17 => 120 | 18 => 121 | 19 => 122 | 20 => 123 | 21 => 124 | 22 => 125 | 25 => 154 | 26 => 155 | 27 => 156 | 28 => 157 | 29 => 158 | 30 => 159 | 31 => 180 | n => n, fun | 26 => 3 | 28 => 108 | 24 => 33 | 0 => 0 | 3 => 3 | 37 => 49 | 48 => 73 | 50 => 124 | 4 => 4 | 40 => 182 | 39 => 181 | 45 => 119 | 5 => 5 | 9 => 9 | 51 => 207 | 55 => 211 | 57 => 231 | 58 => 232 | 33 => 142 | n => n, fun | n => n⟩
theorem sortedI : Go.Proofs.SlLaysZI.n6 Tryz.prog sortedI_ren := {
  mixed := by kernel_rfl
  f6 := ⟨Tryz.f57.name, by decide, Tryz.func57.trans (congrArg some (by kernel_rfl))⟩
  f8 := ⟨Tryz.f79.name, by decide, Tryz.func79.trans (congrArg some (by kernel_rfl))⟩
  f11 := ⟨Tryz.f96.name, by decide, Tryz.func96.trans (congrArg some (by kernel_rfl))⟩
  t0 := Tryz.underlying0
  a0 := Tryz.isAgg0
  z0 := Tryz.sizeOf0
  v0 := Tryz.zeroValue0
  t24 := Tryz.underlying33
  a24 := Tryz.isAgg33
  z24 := Tryz.sizeOf33
  v24 := Tryz.zeroValue33
  t26 := Tryz.underlying3
  a26 := Tryz.isAgg3
  z26 := Tryz.sizeOf3
  v26 := Tryz.zeroValue3
  t28 := Tryz.underlying108
  a28 := Tryz.isAgg108
  z28 := Tryz.sizeOf108
  v28 := Tryz.zeroValue108
  i26 := by kernel_rfl }
def sortI_ren : Go.Shelf.Ren := ⟨fun | 5 => 80 | 8 => 98 | 7 => 97 | 19 => 126 | 20 => 127 | 10 => 117 | 11 => 118 | 12 => 119 | 13 => 120 | 14 => 121 | 15 => 122 | 16 => 123 | 17 => 124 | 18 => 125 | 30 => 154 | 31 => 155 | 32 => 156 | 33 => 157 | 34 => 158 | 35 => 159 | 40 => 180 | n => n, fun | 23 => 33 | 25 => 3 | 3 => 3 | 32 => 49 | 22 => 33 | 0 => 0 | 44 => 73 | 46 => 124 | 4 => 4 | 36 => 182 | 35 => 181 | 41 => 119 | 5 => 5 | 9 => 9 | 53 => 207 | 57 => 211 | 63 => 231 | 64 => 232 | n => n, fun | n => n⟩
theorem sortI : Go.Proofs.SlLaysM.n5 Tryz.prog sortI_ren := {
  mixed := by kernel_rfl
  f5 := ⟨Tryz.f80.name, by decide, Tryz.func80.trans (congrArg some (by kernel_rfl))⟩
  f7 := ⟨Tryz.f97.name, by decide, Tryz.func97.trans (congrArg some (by kernel_rfl))⟩
  f8 := Tryz.func98.trans (congrArg some (by kernel_rfl))
  f10 := ⟨Tryz.f117.name, by decide, Tryz.func117.trans (congrArg some (by kernel_rfl))⟩
  f11 := ⟨Tryz.f118.name, by decide, Tryz.func118.trans (congrArg some (by kernel_rfl))⟩
  f12 := ⟨Tryz.f119.name, by decide, Tryz.func119.trans (congrArg some (by kernel_rfl))⟩
  f13 := ⟨Tryz.f120.name, by decide, Tryz.func120.trans (congrArg some (by kernel_rfl))⟩
  f14 := ⟨Tryz.f121.name, by decide, Tryz.func121.trans (congrArg some (by kernel_rfl))⟩
  f15 := ⟨Tryz.f122.name, by decide, Tryz.func122.trans (congrArg some (by kernel_rfl))⟩
  f16 := ⟨Tryz.f123.name, by decide, Tryz.func123.trans (congrArg some (by kernel_rfl))⟩
  f17 := ⟨Tryz.f124.name, by decide, Tryz.func124.trans (congrArg some (by kernel_rfl))⟩
  f18 := ⟨Tryz.f125.name, by decide, Tryz.func125.trans (congrArg some (by kernel_rfl))⟩
  f19 := Tryz.func126.trans (congrArg some (by kernel_rfl))
  f20 := Tryz.func127.trans (congrArg some (by kernel_rfl))
  f30 := ⟨Tryz.f154.name, by decide, Tryz.func154.trans (congrArg some (by kernel_rfl))⟩
  f31 := Tryz.func155.trans (congrArg some (by kernel_rfl))
  f32 := Tryz.func156.trans (congrArg some (by kernel_rfl))
  f33 := ⟨Tryz.f157.name, by decide, Tryz.func157.trans (congrArg some (by kernel_rfl))⟩
  f34 := ⟨Tryz.f158.name, by decide, Tryz.func158.trans (congrArg some (by kernel_rfl))⟩
  f35 := ⟨Tryz.f159.name, by decide, Tryz.func159.trans (congrArg some (by kernel_rfl))⟩
  f40 := ⟨Tryz.f180.name, by decide, Tryz.func180.trans (congrArg some (by kernel_rfl))⟩
  t0 := Tryz.underlying0
  a0 := Tryz.isAgg0
  z0 := Tryz.sizeOf0
  v0 := Tryz.zeroValue0
  t3 := Tryz.underlying3
  a3 := Tryz.isAgg3
  z3 := Tryz.sizeOf3
  v3 := Tryz.zeroValue3
  t4 := Tryz.underlying4
  a4 := Tryz.isAgg4
  z4 := Tryz.sizeOf4
  v4 := Tryz.zeroValue4
  t5 := Tryz.underlying5
  a5 := Tryz.isAgg5
  z5 := Tryz.sizeOf5
  v5 := Tryz.zeroValue5
  t9 := Tryz.underlying9
  a9 := Tryz.isAgg9
  z9 := Tryz.sizeOf9
  v9 := Tryz.zeroValue9
  t22 := Tryz.underlying33
  a22 := Tryz.isAgg33
  z22 := Tryz.sizeOf33
  v22 := Tryz.zeroValue33
  t23 := Tryz.underlying33
  a23 := Tryz.isAgg33
  z23 := Tryz.sizeOf33
  v23 := Tryz.zeroValue33
  t25 := Tryz.underlying3
  a25 := Tryz.isAgg3
  z25 := Tryz.sizeOf3
  v25 := Tryz.zeroValue3
  t32 := Tryz.underlying49
  a32 := Tryz.isAgg49
  z32 := Tryz.sizeOf49
  v32 := Tryz.zeroValue49
  t35 := Tryz.underlying181
  a35 := Tryz.isAgg181
  z35 := Tryz.sizeOf181
  v35 := Tryz.zeroValue181
  t36 := Tryz.underlying182
  a36 := Tryz.isAgg182
  z36 := Tryz.sizeOf182
  v36 := Tryz.zeroValue182
  t41 := Tryz.underlying119
  a41 := Tryz.isAgg119
  z41 := Tryz.sizeOf119
  v41 := Tryz.zeroValue119
  t44 := Tryz.underlying73
  a44 := Tryz.isAgg73
  z44 := Tryz.sizeOf73
  v44 := Tryz.zeroValue73
  t46 := Tryz.underlying124
  a46 := Tryz.isAgg124
  z46 := Tryz.sizeOf124
  v46 := Tryz.zeroValue124
  t53 := Tryz.underlying207
  a53 := Tryz.isAgg207
  z53 := Tryz.sizeOf207
  v53 := Tryz.zeroValue207
  t57 := Tryz.underlying211
  a57 := Tryz.isAgg211
  z57 := Tryz.sizeOf211
  v57 := Tryz.zeroValue211
  t63 := Tryz.underlying231
  a63 := Tryz.isAgg231
  z63 := Tryz.sizeOf231
  v63 := Tryz.zeroValue231
  t64 := Tryz.underlying232
  a64 := Tryz.isAgg232
  z64 := Tryz.sizeOf232
  v64 := Tryz.zeroValue232 }
def keysS_ren : Go.Shelf.Ren := ⟨fun | 7 => 61 | 10 => 84 | n => n, fun | 23 => 111 | 26 => 9 | 3 => 3 | 28 => 114 | 0 => 0 | 27 => 113 | 33 => 144 | 4 => 4 | n => n, fun | n => n⟩
theorem keysS : Go.Proofs.SlLaysZ.n7 Tryz.prog keysS_ren := {
  mixed := by kernel_rfl
  f7 := ⟨Tryz.f61.name, by decide, Tryz.func61.trans (congrArg some (by kernel_rfl))⟩
  f10 := ⟨Tryz.f84.name, by decide, Tryz.func84.trans (congrArg some (by kernel_rfl))⟩
  t0 := Tryz.underlying0
  a0 := Tryz.isAgg0
  z0 := Tryz.sizeOf0
  v0 := Tryz.zeroValue0
  t4 := Tryz.underlying4
  a4 := Tryz.isAgg4
  z4 := Tryz.sizeOf4
  v4 := Tryz.zeroValue4
  t23 := Tryz.underlying111
  a23 := Tryz.isAgg111
  z23 := Tryz.sizeOf111
  v23 := Tryz.zeroValue111
  t26 := Tryz.underlying9
  a26 := Tryz.isAgg9
  z26 := Tryz.sizeOf9
  v26 := Tryz.zeroValue9
  t27 := Tryz.underlying113
  a27 := Tryz.isAgg113
  z27 := Tryz.sizeOf113
  v27 := Tryz.zeroValue113
  t28 := Tryz.underlying114
  a28 := Tryz.isAgg114
  z28 := Tryz.sizeOf114
  v28 := Tryz.zeroValue114
  t33 := Tryz.underlying144
  a33 := Tryz.isAgg144
  z33 := Tryz.sizeOf144
  v33 := Tryz.zeroValue144 }
def sortedS_ren : Go.Shelf.Ren := ⟨fun | 6 => 60 | 8 => 82 | 9 => 83 | 11 => 99 | 13 => 98 | 12 => 100 | 23 => 126 | 24 => 127 | 14 => 128 | 15 => 129 | 16 => 130 | 17 => 131 | 18 => 132 | 19 => 133 | 20 => 134 | 21 => 135 | 22 => 136 | 25 => 160 | 26 => 155 | 27 => 156 | 28 => 161 | 29 => 162 | 30 => 163 | 31 => 181 | n => n, fun | 26 => 9 | 28 => 114 | 24 => 37 | 0 => 0 | 3 => 3 | 37 => 49 | 48 => 73 | 50 => 124 | 4 => 4 | 40 => 182 | 39 => 181 | 45 => 119 | 5 => 5 | 9 => 9 | 51 => 207 | 55 => 211 | 57 => 231 | 58 => 232 | 33 => 144 | n => n, fun | n => n⟩
theorem sortedS : Go.Proofs.SlLaysZ.n6 Tryz.prog sortedS_ren := {
  mixed := by kernel_rfl
  f6 := ⟨Tryz.f60.name, by decide, Tryz.func60.trans (congrArg some (by kernel_rfl))⟩
  f8 := ⟨Tryz.f82.name, by decide, Tryz.func82.trans (congrArg some (by kernel_rfl))⟩
  f11 := ⟨Tryz.f99.name, by decide, Tryz.func99.trans (congrArg some (by kernel_rfl))⟩
  t0 := Tryz.underlying0
  a0 := Tryz.isAgg0
  z0 := Tryz.sizeOf0
  v0 := Tryz.zeroValue0
  t24 := Tryz.underlying37
  a24 := Tryz.isAgg37
  z24 := Tryz.sizeOf37
  v24 := Tryz.zeroValue37
  t26 := Tryz.underlying9
  a26 := Tryz.isAgg9
  z26 := Tryz.sizeOf9
  v26 := Tryz.zeroValue9
  t28 := Tryz.underlying114
  a28 := Tryz.isAgg114
  z28 := Tryz.sizeOf114
  v28 := Tryz.zeroValue114
  i26 := by kernel_rfl }
def sortS_ren : Go.Shelf.Ren := ⟨fun | 6 => 83 | 8 => 98 | 9 => 100 | 19 => 126 | 20 => 127 | 21 => 128 | 22 => 129 | 23 => 130 | 24 => 131 | 25 => 132 | 26 => 133 | 27 => 134 | 28 => 135 | 29 => 136 | 36 => 160 | 31 => 155 | 32 => 156 | 37 => 161 | 38 => 162 | 39 => 163 | 41 => 181 | n => n, fun | 27 => 37 | 29 => 9 | 3 => 3 | 32 => 49 | 26 => 37 | 0 => 0 | 44 => 73 | 46 => 124 | 4 => 4 | 36 => 182 | 35 => 181 | 41 => 119 | 5 => 5 | 9 => 9 | 53 => 207 | 57 => 211 | 63 => 231 | 64 => 232 | n => n, fun | n => n⟩
theorem sortS : Go.Proofs.SlLaysM.n6 Tryz.prog sortS_ren := {
  mixed := by kernel_rfl
  f6 := ⟨Tryz.f83.name, by decide, Tryz.func83.trans (congrArg some (by kernel_rfl))⟩
  f8 := Tryz.func98.trans (congrArg some (by kernel_rfl))
  f9 := ⟨Tryz.f100.name, by decide, Tryz.func100.trans (congrArg some (by kernel_rfl))⟩
  f19 := Tryz.func126.trans (congrArg some (by kernel_rfl))
  f20 := Tryz.func127.trans (congrArg some (by kernel_rfl))
  f21 := ⟨Tryz.f128.name, by decide, Tryz.func128.trans (congrArg some (by kernel_rfl))⟩
  f22 := ⟨Tryz.f129.name, by decide, Tryz.func129.trans (congrArg some (by kernel_rfl))⟩
  f23 := ⟨Tryz.f130.name, by decide, Tryz.func130.trans (congrArg some (by kernel_rfl))⟩
  f24 := ⟨Tryz.f131.name, by decide, Tryz.func131.trans (congrArg some (by kernel_rfl))⟩
  f25 := ⟨Tryz.f132.name, by decide, Tryz.func132.trans (congrArg some (by kernel_rfl))⟩
  f26 := ⟨Tryz.f133.name, by decide, Tryz.func133.trans (congrArg some (by kernel_rfl))⟩
  f27 := ⟨Tryz.f134.name, by decide, Tryz.func134.trans (congrArg some (by kernel_rfl))⟩
  f28 := ⟨Tryz.f135.name, by decide, Tryz.func135.trans (congrArg some (by kernel_rfl))⟩
  f29 := ⟨Tryz.f136.name, by decide, Tryz.func136.trans (congrArg some (by kernel_rfl))⟩
  f31 := Tryz.func155.trans (congrArg some (by kernel_rfl))
  f32 := Tryz.func156.trans (congrArg some (by kernel_rfl))
  f36 := ⟨Tryz.f160.name, by decide, Tryz.func160.trans (congrArg some (by kernel_rfl))⟩
  f37 := ⟨Tryz.f161.name, by decide, Tryz.func161.trans (congrArg some (by kernel_rfl))⟩
  f38 := ⟨Tryz.f162.name, by decide, Tryz.func162.trans (congrArg some (by kernel_rfl))⟩
  f39 := ⟨Tryz.f163.name, by decide, Tryz.func163.trans (congrArg some (by kernel_rfl))⟩
  f41 := ⟨Tryz.f181.name, by decide, Tryz.func181.trans (congrArg some (by kernel_rfl))⟩
  t0 := Tryz.underlying0
  a0 := Tryz.isAgg0
  z0 := Tryz.sizeOf0
  v0 := Tryz.zeroValue0
  t3 := Tryz.underlying3
  a3 := Tryz.isAgg3
  z3 := Tryz.sizeOf3
  v3 := Tryz.zeroValue3
  t4 := Tryz.underlying4
  a4 := Tryz.isAgg4
  z4 := Tryz.sizeOf4
  v4 := Tryz.zeroValue4
  t5 := Tryz.underlying5
  a5 := Tryz.isAgg5
  z5 := Tryz.sizeOf5
  v5 := Tryz.zeroValue5
  t9 := Tryz.underlying9
  a9 := Tryz.isAgg9
  z9 := Tryz.sizeOf9
  v9 := Tryz.zeroValue9
  t26 := Tryz.underlying37
  a26 := Tryz.isAgg37
  z26 := Tryz.sizeOf37
  v26 := Tryz.zeroValue37
  t27 := Tryz.underlying37
  a27 := Tryz.isAgg37
  z27 := Tryz.sizeOf37
  v27 := Tryz.zeroValue37
  t29 := Tryz.underlying9
  a29 := Tryz.isAgg9
  z29 := Tryz.sizeOf9
  v29 := Tryz.zeroValue9
  t32 := Tryz.underlying49
  a32 := Tryz.isAgg49
  z32 := Tryz.sizeOf49
  v32 := Tryz.zeroValue49
  t35 := Tryz.underlying181
  a35 := Tryz.isAgg181
  z35 := Tryz.sizeOf181
  v35 := Tryz.zeroValue181
  t36 := Tryz.underlying182
  a36 := Tryz.isAgg182
  z36 := Tryz.sizeOf182
  v36 := Tryz.zeroValue182
  t41 := Tryz.underlying119
  a41 := Tryz.isAgg119
  z41 := Tryz.sizeOf119
  v41 := Tryz.zeroValue119
  t44 := Tryz.underlying73
  a44 := Tryz.isAgg73
  z44 := Tryz.sizeOf73
  v44 := Tryz.zeroValue73
  t46 := Tryz.underlying124
  a46 := Tryz.isAgg124
  z46 := Tryz.sizeOf124
  v46 := Tryz.zeroValue124
  t53 := Tryz.underlying207
  a53 := Tryz.isAgg207
  z53 := Tryz.sizeOf207
  v53 := Tryz.zeroValue207
  t57 := Tryz.underlying211
  a57 := Tryz.isAgg211
  z57 := Tryz.sizeOf211
  v57 := Tryz.zeroValue211
  t63 := Tryz.underlying231
  a63 := Tryz.isAgg231
  z63 := Tryz.sizeOf231
  v63 := Tryz.zeroValue231
  t64 := Tryz.underlying232
  a64 := Tryz.isAgg232
  z64 := Tryz.sizeOf232
  v64 := Tryz.zeroValue232 }
end Go.Proofs.YtdambnclbpipdaaGreatDoor.Mfl
namespace Go.Proofs.YtdambnclbpipdaaGreatDoor.Mf
set_option linter.unusedVariables false
set_option linter.unusedSimpArgs false
open Go.RowKit Go.Maps Go.Proofs.YtdambnclbpipdaaGreatDoorW.PrintWords Go.Proofs.YtdambnclbpipdaaGreatDoor.Hp Go.Proofs.YtdambnclbpipdaaGreatDoor.Fm Go.Proofs.YtdambnclbpipdaaGreatDoor.Ma Go.Proofs.YtdambnclbpipdaaGreatDoor.Mb Go.Proofs.YtdambnclbpipdaaGreatDoor.Mc Go.Proofs.YtdambnclbpipdaaGreatDoor.Me Go.Proofs.YtdambnclbpipdaaGreatDoor.Mg
theorem CloneM (w : World) (b : Nat) (D : DataW Value) (h : MapV w TI b D) : Calls Tryz.prog 76 #[.map (some b)] w fun e w' => e = .returned (.map (some w.heap.size)) ∧ MapV w' TI w.heap.size D ∧ Below w.heap.size w w' :=
  (AnyW.maps_Clone_owns Mfl.cloneL TI RV b _ D w h).mono fun e w' ⟨h1, h2, h3, h4⟩ => ⟨h1, h2, h4⟩
section
variable {g base : Nat} {S : Ix} {ok okp : Nat → Prop} {bm dm : Nat} {rv : Value} {Db Dd : DataW Value} {RS : List Rn} {ad : Int → Nat}
def InRun (w wi : World) (mb hh : Nat) (r : Rn) (P : En → Bool) (ad : Int → Nat) (L : List En) (left : Lit → Bool) (D : DataW Value) : Prop :=
  Below w.heap.size w wi ∧ MapV wi TI mb D ∧ LvQ (qIn P r.n left) ad L D ∧ wi.heap[hh]? = some (.cells #[.int .i64 r.n, .map (some r.blk)] TRun (0, 0))
theorem live_start {w W w2 : World} {mb hh : Nat} {r : Rn} {P : En → Bool} {D : DataW Value} (hG : GoodX gk ad S.L S.num Db Dd RS S.dead) (hB : Below w.heap.size w W) (hM : MapV W TI mb D) (hQ : LvQ P ad S.L D) (hb : W.heap[hh]? = some (.cells #[.int .i64 r.n, .map (some r.blk)] TRun (0, 0)))
    (hr : r ∈ RS) (hg : W.grownBy w2 none) : InRun w w2 mb hh r P ad S.L (has r.D) D := by
  have hb2 : Below W.heap.size W w2 := (Below.refl _ W).grown hg (Nat.le_refl _) (fun j hj => by cases hj)
  exact ⟨below_then hB hB.size hb2, hM.below hb2, hQ.enter hr hG, blk_below hb hb2⟩
theorem in_next {w wi w3 : World} {mb hh b it cnt : Nat} {r : Rn} {P : En → Bool} {L : List En} {left : Lit → Bool} {D D0 : DataW Value} (h : InRun w wi mb hh r P ad L left D) (hR : Rng wi TI b it D0 left cnt) (hg : wi.grownBy w3 (some it)) (hit : w.heap.size ≤ it) :
    Below w.heap.size w w3 ∧ MapV w3 TI mb D ∧ w3.heap[hh]? = some (.cells #[.int .i64 r.n, .map (some r.blk)] TRun (0, 0)) := by
  obtain ⟨h1, h2, h3, h4⟩ := h
  refine ⟨h1.grown hg h1.size (fun j hj => by cases hj; exact hit), h2.move (hg.block mb h2.lt (fun e => hR.ne_map h2 (by injection e))), blk_grown h4 hg (fun e => hR.ne_blk h4 (by injection e))⟩
theorem in_skip {w wi w3 : World} {mb hh : Nat} {r : Rn} {P : En → Bool} {left : Lit → Bool} {D : DataW Value} {x : Int} (h : Below w.heap.size w w3 ∧ MapV w3 TI mb D ∧ w3.heap[hh]? = some (.cells #[.int .i64 r.n, .map (some r.blk)] TRun (0, 0)))
    (hI : InRun w wi mb hh r P ad S.L left D) (hr : r ∈ RS) (hG : GoodX gk ad S.L S.num Db Dd RS S.dead) (hd : has Dd (gk r.n x) = true) (nq : Nat) : InRun w (w3.drewN nq) mb hh r P ad S.L (fun z => left z && !z.sameKey (ik x)) D :=
  ⟨pw_below_drewN h.1 nq, h.2.1.below (pw_below_drewN (Below.refl _ _) nq), hI.2.2.1.skip hr hG hd, blk_below h.2.2 (pw_below_drewN (Below.refl _ _) nq)⟩
theorem in_small {w wi : World} {mb hh : Nat} {r : Rn} {P : En → Bool} {L : List En} {left : Lit → Bool} {D : DataW Value} (h : InRun w wi mb hh r P ad L left D) (hs : Srt L) (hl : L.length ≤ 256) : size D < maxLen := by
  rw [h.2.2.1.size hs h.2.1]
  have := List.length_filter_le (qIn P r.n left) L
  unfold maxLen
  omega
theorem in_rng {w w3 w4 : World} {mb it cnt nq : Nat} {r : Rn} {left : Lit → Bool} {D : DataW Value} (h : Rng w3 TI r.blk it r.D left cnt) (hmb : mb = w.heap.size) (hb : r.blk < w.heap.size) (hg : (w3.drewN nq).grownBy w4 (some mb)) (hM : MapV w3 TI mb D) : Rng w4 TI r.blk it r.D left cnt := by
  have h' := h.below (pw_below_drewN (Below.refl w3.heap.size w3) nq)
  exact h'.move (hg.block _ h'.lt.1 (fun e => by injection e; omega)) (hg.block _ h'.lt.2 (fun e => h.ne_map hM (by injection e with e; exact e.symm)))
theorem in_lay {w wi w3 w4 : World} {mb hh a1 nq : Nat} {r : Rn} {P : En → Bool} {left : Lit → Bool} {D : DataW Value} {x : Int} (h : Below w.heap.size w w3 ∧ MapV w3 TI mb D ∧ w3.heap[hh]? = some (.cells #[.int .i64 r.n, .map (some r.blk)] TRun (0, 0)))
    (hI : InRun w wi mb hh r P ad S.L left D) (hr : r ∈ RS) (hG : GoodX gk ad S.L S.num Db Dd RS S.dead) (hd : has Dd (gk r.n x) = false) (hx : has r.D (ik x) = true) (hmb : mb = w.heap.size) (hM : MapV w4 TI mb (D.put (ik x) (.held (at0 a1)))) (hg : (w3.drewN nq).grownBy w4 (some mb)) (ha : vlD np r.D (ik x) = at0 a1) :
    InRun w w4 mb hh r P ad S.L (fun z => left z && !z.sameKey (ik x)) (D.put (ik x) (.held (at0 a1))) := by
  have hq := hI.2.2.1.lay (h.2.1.tidy keyI).isMap hr hG hd hx
  rw [ha] at hq
  have hb := pw_below_drewN h.1 nq
  exact ⟨hb.grown hg hb.size (fun j hj => by cases hj; omega), hM, hq, blk_grown (blk_below h.2.2 (pw_below_drewN (Below.refl _ _) nq)) hg (fun e => by
    injection e with e
    subst e
    obtain ⟨es, c, h2, _⟩ := h.2.1
    rw [h.2.2] at h2
    cases h2)⟩
set_option maxRecDepth 100000 in
set_option maxHeartbeats 4000000 in
theorem liveP (w : World) (h : Ix0 g base S ok okp w bm dm rv Db Dd RS ad) (hnw : ∀ r ∈ RS, (Lit.int .i64 r.n).wf = true) :
    Calls Tryz.prog 54 #[at0 g] w fun e w' => ∃ D, e = .returned (.map (some w.heap.size)) ∧ MapV w' TI w.heap.size D ∧ LiveX ad S.L D ∧ Below w.heap.size w w' := by
  obtain ⟨A, c, hrv, hnc, hC⟩ := Kd.R_reads h.row
  obtain ⟨n, hn⟩ : ∃ n, n = RS.length := ⟨_, rfl⟩
  have hl : (rns RS).length = n := by rw [List.length_map, hn]
  rw [hl] at hrv hnc hC
  have c1 : w.cell? ⟨g, 1, none⟩ = some (.map (some bm)) := by simp [World.cell?, h.blk]
  have c2 : w.cell? ⟨g, 2, none⟩ = some (.slice A n c) := by rw [← hrv]; simp [World.cell?, h.blk]
  have c4 : w.cell? ⟨g, 4, none⟩ = some (.map (some dm)) := by simp [World.cell?, h.blk]
  have HX := Aside0.mk h
  have HC := Aside0.mk hC
  have HN := Aside0.mk hn
  have HNW := Aside0.mk hnw
  have hzi : ∀ W, (zeroValue 3).run Tryz.prog W = .ok (.int .i64 0) W := fun W => by kernel_rfl
  obtain ⟨mb, hmb⟩ : ∃ mb, mb = w.heap.size := ⟨_, rfl⟩
  have HMB := Aside0.mk hmb
  clear hrv hnc hC hn hnw h
  go_enter Tryz.func54, Tryz.ntmps54
  go_upto_region 4 with (first | (go_at_call 76; refine (CloneM w bm Db HX.out.mb).mono ?_; rintro e w1 ⟨rfl, p1, p2⟩; have P1 := Aside0.mk p1; have P2 := Aside0.mk p2; clear p1 p2))
  have d2 := pw_cell_below P2.out c2
  rw [← hmb]
  rw [← hmb] at P1
  clear hmb
  go_wp2
  go_loopw [20] (fun v wr => ∃ (k : Nat) (D : DataW Value), v = .int .i64 k ∧ k ≤ n ∧ Aside0 (Below w.heap.size w wr) ∧ Aside0 (MapV wr TI mb D) ∧ Aside0 (LvQ (pRuns RS k) ad S.L D)) (fun v _ => n - (intOf v).toNat)
  case atStart => exact ⟨0, Db, rfl, Nat.zero_le _, ⟨P2.out⟩, ⟨P1.out⟩, ⟨LvQ.first HX.out.good⟩⟩
  case round =>
    obtain ⟨k, D, rfl, hkn, HB, HM, HQ⟩ := hrel
    clear P1 P2 d2
    by_cases hlt : k < n
    · have hd : decide ((k : Int) < (n : Int)) = true := decide_eq_true (by omega)
      have hd2 : decide (k < n) = true := decide_eq_true hlt
      have hkl : k < RS.length := by have := HN.out; omega
      obtain ⟨r, hr⟩ : ∃ r, RS[k]? = some r := ⟨RS[k], List.getElem?_eq_getElem hkl⟩
      have hrm : r ∈ RS := List.mem_of_getElem? hr
      obtain ⟨a, rfl, x0, x1⟩ := runAt HC.out k hlt (by omega)
      have e1 : (rns RS)[k]'(by omega) = (r.n, r.blk) := by
        have h2 : RS[k] = r := by rw [List.getElem?_eq_getElem hkl] at hr; injection hr
        simp [rns, h2]
      rw [e1] at x0 x1
      simp only at x0 x1
      have x0 := pw_cell_below HB.out x0
      have x1 := pw_cell_below HB.out x1
      have hw : wrap64 ((k : Int) + 1) = (k : Int) + 1 := by have := HC.out.2.1; unfold wrap64; omega
      have HR := Aside0.mk hr
      have HRM := Aside0.mk hrm
      have hbw : Below w.heap.size w (wr.alloc (.cells #[.int .i64 r.n, .map (some r.blk)] TRun)) := below_alloc HB.out _
      have HBW := Aside0.mk hbw
      have m1 := (HX.out.rm r hrm).below hbw
      have M1 := Aside0.mk m1
      have M2 := Aside0.mk (HM.out.below (below_alloc (Below.refl _ _) (.cells #[.int .i64 r.n, .map (some r.blk)] TRun)))
      have B1 := Aside0.mk (blk_new wr (.cells #[.int .i64 r.n, .map (some r.blk)] TRun))
      obtain ⟨hh, hhh⟩ : ∃ hh, hh = wr.heap.size := ⟨_, rfl⟩
      rw [← hhh] at B1
      have HHH := Aside0.mk hhh
      clear hr hrm e1 hkl hbw m1 HM HB
      go_wp2_with (first | (at_range; refine wp_range rfl _ 89 rfl _ _ keyI Tryz.underlying89 r.blk r.D rfl M1.out ?_; intro w2 q1 q2; have Q1 := Aside0.mk q1; have Q2 := Aside0.mk q2; clear q1 q2) | go_in)
      rw [← hhh]
      clear hhh
      generalize hit : (wr.alloc (.cells #[.int .i64 r.n, .map (some r.blk)] TRun)).heap.size = it at Q1
      have HIT := Aside0.mk hit
      clear hit
      go_frame
      have ST := Aside0.mk (live_start HX.out.good HBW.out M2.out HQ.out B1.out HRM.out Q2.out)
      clear HQ M2 M1 B1 x0 x1 c2
      go_loopw [6] (fun _ wi => ∃ (D : DataW Value) (left : Lit → Bool) (cnt : Nat), Aside0 (Rng wi TI r.blk it r.D left cnt) ∧ Aside0 (InRun w wi mb hh r (pRuns RS k) ad S.L left D)) (fun _ wi => wi.rangeLeft r.blk it)
      case atStart => exact ⟨D, _, _, Q1, ST⟩
      case round =>
        obtain ⟨D2, left, cnt, HRG, HI⟩ := hrel
        clear Q1 ST
        go_wp2_with (first | (at_next; refine wp_next rfl _ rfl TI keyI (Value.int .i64) (fun key kl hk => (Maps.keyOf_int_inv Tryz.underlying3 hk).imp (fun x hx => hx.1)) np r.blk it r.D left cnt rfl HRG.out ?_ ?_) | go_in)
        · intro hl0
          have HL0 := Aside0.mk hl0
          clear hl0
          go_wp2
          go_roundw
          case rel => exact ⟨k + 1, D2, by go_num, by omega, ⟨HI.out.1⟩, ⟨HI.out.2.1⟩, ⟨HI.out.2.2.1.next HR.out HL0.out⟩⟩
          case measure => exact less_ hw hlt
        · intro x kl w3 cnt3 hkey hlk hhas hrg3 hlt3 hg3 hen
          obtain ⟨y, hy1, rfl, hyw⟩ := Maps.keyOf_int_inv Tryz.underlying3 hkey
          obtain rfl : x = y := by injection hy1
          obtain ⟨a1, ha1⟩ := HX.out.good.nnr r HRM.out x hhas
          rw [ha1] at hen ⊢
          have hin := in_next HI.out HRG.out hg3 (by rw [← HIT.out]; exact HBW.out.size)
          have y4 := pw_cell_below hin.1 c4
          have y5 := blk_cell hin.2.2 0
          simp only [List.getElem?_toArray, List.getElem?_cons_zero] at y5
          have hone := HX.out.good.one (gk r.n x)
          have y4n : ∀ nq, (w3.drewN nq).cell? ⟨g, 4, none⟩ = some (.map (some dm)) := fun nq => y4
          have y5n : ∀ nq, (w3.drewN nq).cell? ⟨hh, 0, none⟩ = some (.int .i64 r.n) := fun nq => y5
          have l2 : ∀ nq, (Instr.lookup 90 (.map (some dm)) (.agg #[.int .i64 r.n, .int .i64 x]) false).run Tryz.prog (w3.drewN nq) = .ok (oneV (has Dd (gk r.n x))) (w3.drewN nq) := by
            intro nq
            rw [← hone]
            exact (HX.out.md.below (pw_below_drewN hin.1 nq)).look keyG Tryz.underlying90 (hzi _) (gk_key r.n x (HNW.out r HRM.out) hyw)
          have HIN := Aside0.mk hin
          have HRG3 := Aside0.mk hrg3
          have HHAS := Aside0.mk hhas
          have HA1 := Aside0.mk ha1
          have HYW := Aside0.mk hyw
          have HLT3 := Aside0.mk hlt3
          clear hkey hlk hhas hrg3 hg3 hin hone ha1 hyw hlt3 hy1
          cases hd9 : has Dd (gk r.n x) with
          | true => as_aux_lemma =>
            rw [hd9] at l2
            have HD9 := Aside0.mk hd9
            clear hd9
            go_upto_region 10 with (fail)
            go_quiet (fail)
            go_wp2
            go_roundw
            case rel => exact ⟨D2, _, cnt3, ⟨HRG3.out.below (pw_below_drewN (Below.refl _ _) _)⟩, ⟨in_skip HIN.out HI.out HRM.out HX.out.good HD9.out _⟩⟩
            case measure => exact rng_less (HRG3.out.below (pw_below_drewN (Below.refl _ _) _)) HRG.out HLT3.out
          | false => as_aux_lemma =>
            rw [hd9] at l2
            have HD9 := Aside0.mk hd9
            clear hd9
            go_upto_region 10 with (fail)
            go_quiet (fail)
            go_wp2_with (first | (at_mapUpdate; refine wp_store rfl _ _ _ 89 rfl TI _ keyI Tryz.underlying89 mb D2 rfl (HIN.out.2.1.below (pw_below_drewN (Below.refl _ _) _)) (in_small HI.out HX.out.good.srt HX.out.small) _ _ (ik x) rfl rfl (keyOf_int_mk Tryz.underlying3 HYW.out) ?_; intro w4 q1 q2; have Q1 := Aside0.mk q1; have Q2 := Aside0.mk q2; clear q1 q2; go_frame) | go_in)
            go_roundw
            case rel => exact ⟨_, _, cnt3, ⟨in_rng HRG3.out HMB.out (by have := (HX.out.rm r HRM.out).lt; exact this) Q2.out HIN.out.2.1⟩, ⟨in_lay HIN.out HI.out HRM.out HX.out.good HD9.out HHAS.out HMB.out Q1.out Q2.out HA1.out⟩⟩
            case measure => exact rng_less (in_rng HRG3.out HMB.out (by have := (HX.out.rm r HRM.out).lt; exact this) Q2.out HIN.out.2.1) HRG.out HLT3.out
    · have hd : decide ((k : Int) < (n : Int)) = false := decide_eq_false (by omega)
      have hd2 : decide (k < n) = false := decide_eq_false hlt
      have hkn2 : k = RS.length := by have := HN.out; omega
      have HFIN := Aside0.mk (show ∃ D, (.returned (.map (some mb)) : Ending) = .returned (.map (some w.heap.size)) ∧ MapV wr TI w.heap.size D ∧ LiveX ad S.L D ∧ Below w.heap.size w wr from ⟨D, by rw [HMB.out], by rw [← HMB.out]; exact HM.out, LvQ.done (by rw [← hkn2]; exact HQ.out) HX.out.good, HB.out⟩)
      go_wp2
      go_ret
      exact HFIN.out
end
end Go.Proofs.YtdambnclbpipdaaGreatDoor.Mf
namespace Go.Proofs.YtdambnclbpipdaaGreatDoor.Mh
set_option linter.unusedVariables false
set_option linter.unusedSimpArgs false
open Go.RowKit Go.Maps Go.Proofs.YtdambnclbpipdaaGreatDoorW.PrintWords Go.Proofs.YtdambnclbpipdaaGreatDoorW.PrintLast Go.Proofs.YtdambnclbpipdaaGreatDoor.Hp Go.Proofs.YtdambnclbpipdaaGreatDoor.Fm Go.Proofs.YtdambnclbpipdaaGreatDoor.Ma Go.Proofs.YtdambnclbpipdaaGreatDoor.Mb Go.Proofs.YtdambnclbpipdaaGreatDoor.Mc Go.Proofs.YtdambnclbpipdaaGreatDoor.Me Go.Proofs.YtdambnclbpipdaaGreatDoor.Mg
theorem infoRn : (Tryz.prog.info? 135).map (fun i => (i.zero, i.size, i.bytes)) = some (some (.agg #[.int .i64 0, .map none]), 2, 16) := by kernel_rfl
theorem lay_below {w w' : World} (h : w.grownBy w' none) : Below w.heap.size w w' := (Below.refl _ w).grown h (Nat.le_refl _) (fun j hj => by cases hj)
theorem reps_run (M : (Int × Nat) → List Value → Prop) (x : Int × Nat) (h : M x [.int .i64 x.1, .map (some x.2)]) : Reps M 2 [x] [.int .i64 x.1, .map (some x.2)] := by
  refine ⟨rfl, fun j p hj => ?_⟩
  cases j with
  | zero => simp at hj; subst hj; simpa using h
  | succ j => simp at hj
def LayPost (w : World) (g base : Nat) (f num : Int) (bm dm mb : Nat) (rv : Value) (l : List (Int × Nat)) (ok : Nat → Prop) (w' : World) : Prop :=
  ∃ rv', w'.heap[g]? = some (.cells #[.int .i64 f, .map (some bm), rv', .int .i64 (num + 1), .map (some dm)] TX (0, 0)) ∧ kRun.R TRun w' base (fun k => ok k ∧ k ≠ g) rv' (l ++ [(num + 1, mb)]) ∧ Chg (fun k => k = g ∨ rv.ownBlock = some k) w w'
theorem lay_end {w w1 w6 w7 : World} {g base : Nat} {f num : Int} {bm dm mb : Nat} {rv v7 : Value} {l : List (Int × Nat)} {ok : Nat → Prop} (h1 : w1 = w.setCell ⟨g, 3, none⟩ (.int .i64 (num + 1))) (B6 : Below w1.drew.heap.size w1.drew w6) (hg7 : w6.grownBy w7 rv.ownBlock)
    (hrv : ∀ k, rv.ownBlock = some k → k < w.heap.size) (R7 : kRun.R TRun w7 base (fun k => ok k ∧ k ≠ g) v7 (l ++ [(num + 1, mb)])) (hg : g < w.heap.size)
    (X7 : w7.heap[g]? = some (.cells #[.int .i64 f, .map (some bm), rv, .int .i64 (num + 1), .map (some dm)] TX (0, 0))) : LayPost w g base f num bm dm mb rv l ok (w7.setCell ⟨g, 2, none⟩ v7) := by
  refine ⟨v7, by simpa using blk_set X7 2 v7, Kd.R_far (p := ⟨g, 2, none⟩) R7 (fun k hk => hk.2) v7, ?_⟩
  have c1 : Chg (fun k => k = g ∨ rv.ownBlock = some k) w w1 := by rw [h1]; exact (Chg.refl _ w).setCell (p := ⟨g, 3, none⟩) (.inl (.inl rfl)) _
  have c2 := c1.drew.then_below B6
  exact (c2.grown hg7 (fun k hk => .inl (.inr hk))).setCell (p := ⟨g, 2, none⟩) (.inl (.inl rfl)) _
set_option maxRecDepth 100000 in
set_option maxHeartbeats 4000000 in
theorem layRunP (w : World) (g base : Nat) (f num : Int) (bm dm mb : Nat) (rv : Value) (l : List (Int × Nat)) (ok : Nat → Prop) (hb : w.heap[g]? = some (.cells #[.int .i64 f, .map (some bm), rv, .int .i64 num, .map (some dm)] TX (0, 0)))
    (hR : kRun.R TRun w base (fun k => ok k ∧ k ≠ g) rv l) (hfr : ∀ k, w.heap.size ≤ k → ok k) (hbs : base ≤ w.heap.size) (hlen : l.length ≤ 8000000000000) (hnum : 0 ≤ num ∧ num ≤ 1000000000000000000) :
    Calls Tryz.prog 66 #[at0 g, .map (some mb)] w fun e w' => e = .returned (.tuple #[]) ∧ LayPost w g base f num bm dm mb rv l ok w' := by
  have HG := Aside0.mk (blk_lt hb)
  have c3 : w.cell? ⟨g, 3, none⟩ = some (.int .i64 num) := by simp [World.cell?, hb]
  have f3 : w.frozen? ⟨g, 3, none⟩ = false := by simp [World.frozen?, hb]
  have hw : wrap64 (num + 1) = num + 1 := by unfold wrap64; omega
  have HB := Aside0.mk hb
  have HR := Aside0.mk hR
  clear hb hR hnum
  go_enter Tryz.func66, Tryz.ntmps66
  go_upto_region 1 with (fail)
  obtain ⟨w1, hw1⟩ : ∃ w1, w1 = w.setCell ⟨g, 3, none⟩ (.int .i64 (num + 1)) := ⟨_, rfl⟩
  rw [← hw1]
  have hsz : w1.heap.size = w.heap.size := by rw [hw1]; simp
  have hx1 := blk_set HB.out 3 (.int .i64 (num + 1))
  rw [← hw1] at hx1
  simp only [List.setIfInBounds_toArray, List.set_cons_zero, List.set_cons_succ] at hx1
  have R1 := Aside0.mk (show kRun.R TRun w1 base (fun k => ok k ∧ k ≠ g) rv l by rw [hw1]; exact Kd.R_far (p := ⟨g, 3, none⟩) HR.out (fun k hk => hk.2) _)
  have X1 := Aside0.mk hx1
  have HW1 := Aside0.mk hw1
  have HSZ := Aside0.mk hsz
  have RD := Aside0.mk (Kd.R_below R1.out (below_drew (Below.refl _ w1)))
  have XD := Aside0.mk (blk_below X1.out (below_drew (Below.refl _ w1)))
  have cD := blk_cell XD.out 2
  simp only [List.getElem?_toArray, List.getElem?_cons_zero, List.getElem?_cons_succ] at cD
  have HRV := Aside0.mk (show ∀ k, rv.ownBlock = some k → k < w.heap.size from fun k hk => by obtain ⟨inner, ho⟩ := Kd.R_own HR.out; exact own_lt ho k hk)
  have HNG := Aside0.mk (show rv.ownBlock ≠ some g from fun e => (HR.out.1 g e).2 rfl)
  have HFR := Aside0.mk (show ∀ k, w.heap.size ≤ k → ok k ∧ k ≠ g from fun k hk => ⟨hfr k hk, by have := HG.out; omega⟩)
  have HBS := Aside0.mk hbs
  have HLEN := Aside0.mk hlen
  clear hx1 hw1 hsz hfr hbs hlen c3 f3
  obtain ⟨w1d, hw1d⟩ : ∃ w1d, w1d = w1.drewN 1 := ⟨_, rfl⟩
  refine wp_region_held_drew (S := fun W => W.cell? ⟨g, 3, none⟩ = some (.int .i64 (num + 1))) (by kernel_rfl) (by simpa using blk_cell XD.out 3) (fun hS => ?_)
  refine wpAnyH_take (i := 0) (oi := { dst := some 11, op := _, type := _, pos := _, after := _, guard := _ }) (v := at0 g) rfl (by kernel_rfl) (by kernel_rfl) (by kernel_rfl) (fun _ _ _ h => h) (Or.inl ⟨by rfl, fun W hW => ?_⟩) hS ?_
  · (go_simp)
  try simp only [Act.put, List.setIfInBounds_toArray, List.set_cons_zero, List.set_cons_succ]
  refine wpAnyH_take (i := 1) (oi := { dst := some 12, op := _, type := _, pos := _, after := _, guard := _ }) (v := at0 g) rfl (by kernel_rfl) (by kernel_rfl) (by kernel_rfl) (fun _ _ _ h => h) (Or.inl ⟨by rfl, fun W hW => ?_⟩) hS ?_
  · (go_simp)
  try simp only [Act.put, List.setIfInBounds_toArray, List.set_cons_zero, List.set_cons_succ]
  refine wpAnyH_take (i := 2) (oi := { dst := some 13, op := _, type := _, pos := _, after := _, guard := _ }) (v := at0 g) rfl (by kernel_rfl) (by kernel_rfl) (by kernel_rfl) (fun _ _ _ h => h) (Or.inl ⟨by rfl, fun W hW => ?_⟩) hS ?_
  · (go_simp)
  try simp only [Act.put, List.setIfInBounds_toArray, List.set_cons_zero, List.set_cons_succ]
  refine wpAnyH_take (i := 3) (oi := { dst := some 14, op := _, type := _, pos := _, after := _, guard := _ }) (v := .pointer (some ⟨g, 2, none⟩)) rfl (by kernel_rfl) (by kernel_rfl) (by kernel_rfl) (fun _ _ _ h => h) (Or.inl ⟨by rfl, fun W hW => ?_⟩) hS ?_
  · (go_simp)
  try simp only [Act.put, List.setIfInBounds_toArray, List.set_cons_zero, List.set_cons_succ]
  refine wpAnyH_take (i := 5) (oi := { dst := some 16, op := _, type := _, pos := _, after := _, guard := _ }) (v := at0 g) rfl (by kernel_rfl) (by kernel_rfl) (by kernel_rfl) (fun _ _ _ h => h) (Or.inl ⟨by rfl, fun W hW => ?_⟩) hS ?_
  · (go_simp)
  try simp only [Act.put, List.setIfInBounds_toArray, List.set_cons_zero, List.set_cons_succ]
  refine wpAnyH_take (i := 6) (oi := { dst := some 17, op := _, type := _, pos := _, after := _, guard := _ }) (v := at0 g) rfl (by kernel_rfl) (by kernel_rfl) (by kernel_rfl) (fun _ _ _ h => h) (Or.inl ⟨by rfl, fun W hW => ?_⟩) hS ?_
  · (go_simp)
  try simp only [Act.put, List.setIfInBounds_toArray, List.set_cons_zero, List.set_cons_succ]
  refine wpAnyH_take (i := 7) (oi := { dst := some 18, op := _, type := _, pos := _, after := _, guard := _ }) (v := .pointer (some ⟨g, 3, none⟩)) rfl (by kernel_rfl) (by kernel_rfl) (by kernel_rfl) (fun _ _ _ h => h) (Or.inl ⟨by rfl, fun W hW => ?_⟩) hS ?_
  · (go_simp)
  try simp only [Act.put, List.setIfInBounds_toArray, List.set_cons_zero, List.set_cons_succ]
  refine wpAnyH_take (i := 8) (oi := { dst := some 19, op := _, type := _, pos := _, after := _, guard := _ }) (v := .int .i64 (num + 1)) rfl (by kernel_rfl) (by kernel_rfl) (by kernel_rfl) (fun _ _ _ h => h) (Or.inl ⟨by rfl, fun W hW => ?_⟩) hS ?_
  · (go_simp)
  try simp only [Act.put, List.setIfInBounds_toArray, List.set_cons_zero, List.set_cons_succ]
  refine wpAnyH_take (i := 9) (oi := { dst := some 20, op := _, type := _, pos := _, after := _, guard := _ }) (v := .map (some mb)) rfl (by kernel_rfl) (by kernel_rfl) (by kernel_rfl) (fun _ _ _ h => h) (Or.inl ⟨by rfl, fun W hW => ?_⟩) hS ?_
  · (go_simp)
  try simp only [Act.put, List.setIfInBounds_toArray, List.set_cons_zero, List.set_cons_succ]
  refine wpAnyH_take (i := 10) (oi := { dst := some 21, op := _, type := _, pos := _, after := _, guard := _ }) (v := .agg #[.int .i64 (num + 1), .map (some mb)]) rfl (by kernel_rfl) (by kernel_rfl) (by kernel_rfl) (fun _ _ _ h => h) (Or.inl ⟨by rfl, fun W hW => ?_⟩) hS ?_
  · (go_simp)
  try simp only [Act.put, List.setIfInBounds_toArray, List.set_cons_zero, List.set_cons_succ]
  refine wpAnyH_ready (rs := [4, 11]) (by kernel_rfl) (by simp) ?_
  refine AllReadyH.cons (o := { dst := some 15, op := _, type := _, pos := _, after := _, guard := _ }) rfl (fun K hK => ?_) (AllReadyH.cons (o := { dst := some 22, op := _, type := _, pos := _, after := _, guard := _ }) rfl (fun K hK => ?_) AllReadyH.nil)
  · go_simp
    refine hK.out _ _ hS (fun hS2 => ?_)
    clear hK K hS
    have hS := hS2
    clear hS2
    try simp only [Act.put, List.setIfInBounds_toArray, List.set_cons_zero, List.set_cons_succ]
    refine wpAnyH_ready (rs := [11]) (by kernel_rfl) (by simp) ?_
    refine AllReadyH.cons (o := { dst := some 22, op := _, type := _, pos := _, after := _, guard := _ }) rfl (fun K hK => ?_) AllReadyH.nil
    refine Kd.R_lit_step kRun 0 TRun (by rfl) (N := 22) rfl (w0 := w1.drew) (xs := [(num + 1, mb)]) (inner := [.int .i64 (num + 1), .map (some mb)]) (ok := fun _ => True) (okp := fun _ => True) ?hr (reps_run _ (num + 1, mb) rfl) (fun _ hk => hk) trivial (Below.refl _ _) (Nat.zero_le _) (by simp) (fun v6 w6 hR6 hb6 hg6 hat6 => ?_)
    case hr => first | (go_simp; done) | (go_simp; rfl)
    obtain ⟨A6, c6, rfl, hc6, hC6⟩ := Kd.R_reads hR6
    have B6 := Aside0.mk (lay_below hg6)
    have C6 := Aside0.mk hC6
    have X6 := Aside0.mk (blk_below XD.out B6.out)
    have R6 := Aside0.mk (Kd.R_below RD.out B6.out)
    have HS6 := Aside0.mk (show w.heap.size ≤ w6.heap.size by rw [← HSZ.out]; exact B6.out.size)
    clear hR6 hb6 hg6 hat6 hC6
    refine hK.out _ _ (by simpa using blk_cell X6.out 3) (fun hS2 => ?_)
    clear hK K hS
    have hS := hS2
    clear hS2
    try simp only [Act.put, List.setIfInBounds_toArray, List.set_cons_zero, List.set_cons_succ]
    refine wpAnyH_ready (rs := [12]) (by kernel_rfl) (by simp) ?_
    refine AllReadyH.cons (o := { dst := some 23, op := _, type := _, pos := _, after := _, guard := _ }) rfl (fun K hK => ?_) AllReadyH.nil
    refine Kd.R_append_rows_step kRun (Rr := kRun.K w6) (w0 := w6) base (by rfl) (.tmp 15) (.tmp 22) 91 TRun (.agg #[.int .i64 0, .map none]) 16 rfl Tryz.underlying91 infoRn rfl (by decide) (by decide) rv l [(num + 1, mb)] A6 [(num + 1, mb)].length c6 (fun k => ok k ∧ k ≠ g) (fun _ => False) rfl rfl R6.out C6.out (fun x cs h => h) (fun _ h => h.elim) (fun k hk => HFR.out k (Nat.le_trans HS6.out hk)) (Below.refl _ _) (Nat.le_trans HBS.out HS6.out) (by simp only [List.length_singleton]; have := HLEN.out; omega) (fun v7 w7 hR7 hb7 hg7 hat7 => ?_)
    have R7 := Aside0.mk hR7
    have G7 := Aside0.mk hg7
    have X7 := Aside0.mk (blk_grown X6.out hg7 (fun e => HNG.out e.symm))
    clear hR7 hb7 hg7 hat7
    refine hK.out _ _ (by simpa using blk_cell X7.out 3) (fun hS2 => ?_)
    clear hK K hS
    have hS := hS2
    clear hS2
    try simp only [Act.put, List.setIfInBounds_toArray, List.set_cons_zero, List.set_cons_succ]
    refine wpAnyH_take (i := 13) (oi := { dst := some 24, op := _, type := _, pos := _, after := _, guard := _ }) (v := at0 g) rfl (by kernel_rfl) (by kernel_rfl) (by kernel_rfl) (fun _ _ _ h => h) (Or.inl ⟨by rfl, fun W hW => ?_⟩) hS ?_
    · (go_simp)
    try simp only [Act.put, List.setIfInBounds_toArray, List.set_cons_zero, List.set_cons_succ]
    refine wpAnyH_take (i := 14) (oi := { dst := some 25, op := _, type := _, pos := _, after := _, guard := _ }) (v := .pointer (some ⟨g, 2, none⟩)) rfl (by kernel_rfl) (by kernel_rfl) (by kernel_rfl) (fun _ _ _ h => h) (Or.inl ⟨by rfl, fun W hW => ?_⟩) hS ?_
    · (go_simp)
    try simp only [Act.put, List.setIfInBounds_toArray, List.set_cons_zero, List.set_cons_succ]
    have f7 := blk_frozen X7.out 2
    have c7 := blk_cell X7.out 2
    simp only [List.getElem?_toArray, List.getElem?_cons_zero, List.getElem?_cons_succ] at c7
    obtain ⟨A7, k7, e7⟩ := Kd.R_slice R7.out
    rw [List.length_append, List.length_singleton] at e7
    subst e7
    refine wpAnyH_ready (rs := [15]) (by kernel_rfl) (by simp) ?_
    refine AllReadyH.cons (o := { dst := none, op := _, type := _, pos := _, after := _, guard := _ }) rfl (fun K hK => ?_) AllReadyH.nil
    go_simp
    refine hK.out _ _ (by simpa using blk_cell (blk_set X7.out 2 _) 3) (fun hS2 => ?_)
    clear hK K hS
    have hS := hS2
    clear hS2
    try simp only [Act.put, List.setIfInBounds_toArray, List.set_cons_zero, List.set_cons_succ]
    refine wpAnyH_done (by kernel_rfl) ?_ _
    go_end0
    exact ⟨rfl, lay_end HW1.out B6.out G7.out HRV.out R7.out HG.out X7.out⟩
  · refine Kd.R_lit_step kRun 0 TRun (by rfl) (N := 22) rfl (w0 := w1.drew) (xs := [(num + 1, mb)]) (inner := [.int .i64 (num + 1), .map (some mb)]) (ok := fun _ => True) (okp := fun _ => True) ?hr (reps_run _ (num + 1, mb) rfl) (fun _ hk => hk) trivial (Below.refl _ _) (Nat.zero_le _) (by simp) (fun v6 w6 hR6 hb6 hg6 hat6 => ?_)
    case hr => first | (go_simp; done) | (go_simp; rfl)
    obtain ⟨A6, c6, rfl, hc6, hC6⟩ := Kd.R_reads hR6
    have B6 := Aside0.mk (lay_below hg6)
    have C6 := Aside0.mk hC6
    have X6 := Aside0.mk (blk_below XD.out B6.out)
    have R6 := Aside0.mk (Kd.R_below RD.out B6.out)
    have HS6 := Aside0.mk (show w.heap.size ≤ w6.heap.size by rw [← HSZ.out]; exact B6.out.size)
    clear hR6 hb6 hg6 hat6 hC6
    refine hK.out _ _ (by simpa using blk_cell X6.out 3) (fun hS2 => ?_)
    clear hK K hS
    have hS := hS2
    clear hS2
    try simp only [Act.put, List.setIfInBounds_toArray, List.set_cons_zero, List.set_cons_succ]
    have cE := blk_cell X6.out 2
    simp only [List.getElem?_toArray, List.getElem?_cons_zero, List.getElem?_cons_succ] at cE
    refine wpAnyH_ready (rs := [4]) (by kernel_rfl) (by simp) ?_
    refine AllReadyH.cons (o := { dst := some 15, op := _, type := _, pos := _, after := _, guard := _ }) rfl (fun K hK => ?_) AllReadyH.nil
    go_simp
    refine hK.out _ _ hS (fun hS2 => ?_)
    clear hK K hS
    have hS := hS2
    clear hS2
    try simp only [Act.put, List.setIfInBounds_toArray, List.set_cons_zero, List.set_cons_succ]
    refine wpAnyH_ready (rs := [12]) (by kernel_rfl) (by simp) ?_
    refine AllReadyH.cons (o := { dst := some 23, op := _, type := _, pos := _, after := _, guard := _ }) rfl (fun K hK => ?_) AllReadyH.nil
    refine Kd.R_append_rows_step kRun (Rr := kRun.K w6) (w0 := w6) base (by rfl) (.tmp 15) (.tmp 22) 91 TRun (.agg #[.int .i64 0, .map none]) 16 rfl Tryz.underlying91 infoRn rfl (by decide) (by decide) rv l [(num + 1, mb)] A6 [(num + 1, mb)].length c6 (fun k => ok k ∧ k ≠ g) (fun _ => False) rfl rfl R6.out C6.out (fun x cs h => h) (fun _ h => h.elim) (fun k hk => HFR.out k (Nat.le_trans HS6.out hk)) (Below.refl _ _) (Nat.le_trans HBS.out HS6.out) (by simp only [List.length_singleton]; have := HLEN.out; omega) (fun v7 w7 hR7 hb7 hg7 hat7 => ?_)
    have R7 := Aside0.mk hR7
    have G7 := Aside0.mk hg7
    have X7 := Aside0.mk (blk_grown X6.out hg7 (fun e => HNG.out e.symm))
    clear hR7 hb7 hg7 hat7
    refine hK.out _ _ (by simpa using blk_cell X7.out 3) (fun hS2 => ?_)
    clear hK K hS
    have hS := hS2
    clear hS2
    try simp only [Act.put, List.setIfInBounds_toArray, List.set_cons_zero, List.set_cons_succ]
    refine wpAnyH_take (i := 13) (oi := { dst := some 24, op := _, type := _, pos := _, after := _, guard := _ }) (v := at0 g) rfl (by kernel_rfl) (by kernel_rfl) (by kernel_rfl) (fun _ _ _ h => h) (Or.inl ⟨by rfl, fun W hW => ?_⟩) hS ?_
    · (go_simp)
    try simp only [Act.put, List.setIfInBounds_toArray, List.set_cons_zero, List.set_cons_succ]
    refine wpAnyH_take (i := 14) (oi := { dst := some 25, op := _, type := _, pos := _, after := _, guard := _ }) (v := .pointer (some ⟨g, 2, none⟩)) rfl (by kernel_rfl) (by kernel_rfl) (by kernel_rfl) (fun _ _ _ h => h) (Or.inl ⟨by rfl, fun W hW => ?_⟩) hS ?_
    · (go_simp)
    try simp only [Act.put, List.setIfInBounds_toArray, List.set_cons_zero, List.set_cons_succ]
    have f7 := blk_frozen X7.out 2
    have c7 := blk_cell X7.out 2
    simp only [List.getElem?_toArray, List.getElem?_cons_zero, List.getElem?_cons_succ] at c7
    obtain ⟨A7, k7, e7⟩ := Kd.R_slice R7.out
    rw [List.length_append, List.length_singleton] at e7
    subst e7
    refine wpAnyH_ready (rs := [15]) (by kernel_rfl) (by simp) ?_
    refine AllReadyH.cons (o := { dst := none, op := _, type := _, pos := _, after := _, guard := _ }) rfl (fun K hK => ?_) AllReadyH.nil
    go_simp
    refine hK.out _ _ (by simpa using blk_cell (blk_set X7.out 2 _) 3) (fun hS2 => ?_)
    clear hK K hS
    have hS := hS2
    clear hS2
    try simp only [Act.put, List.setIfInBounds_toArray, List.set_cons_zero, List.set_cons_succ]
    refine wpAnyH_done (by kernel_rfl) ?_ _
    go_end0
    exact ⟨rfl, lay_end HW1.out B6.out G7.out HRV.out R7.out HG.out X7.out⟩
end Go.Proofs.YtdambnclbpipdaaGreatDoor.Mh
namespace Go.Proofs.YtdambnclbpipdaaGreatDoor.Mi
set_option linter.unusedVariables false
set_option linter.unusedSimpArgs false
open Go.RowKit Go.Maps Go.Proofs.YtdambnclbpipdaaGreatDoorW.PrintWords Go.Proofs.YtdambnclbpipdaaGreatDoor.Hp Go.Proofs.YtdambnclbpipdaaGreatDoor.Fm Go.Proofs.YtdambnclbpipdaaGreatDoor.Ma Go.Proofs.YtdambnclbpipdaaGreatDoor.Mb Go.Proofs.YtdambnclbpipdaaGreatDoor.Mc Go.Proofs.YtdambnclbpipdaaGreatDoor.Me Go.Proofs.YtdambnclbpipdaaGreatDoor.Mg Go.Proofs.YtdambnclbpipdaaGreatDoor.Mf Go.Proofs.YtdambnclbpipdaaGreatDoor.Mh
def StepX (w : World) (g base : Nat) (S' : Ix) (ok okp : Nat → Prop) (w' : World) : Prop :=
  ∃ ok' okp', IsIdx g base S' ok' okp' w' ∧ (∀ k, ok' k → ok k ∨ w.heap.size ≤ k) ∧ (∀ k, okp' k → okp k ∨ w.heap.size ≤ k) ∧ Chg ok w w'
theorem StepX.below {w w' : World} {g base : Nat} {S : Ix} {ok okp : Nat → Prop} (h : IsIdx g base S ok okp w) (hb : Below w.heap.size w w') : StepX w g base S ok okp w' :=
  ⟨ok, okp, h.below hb, fun k hk => .inl hk, fun k hk => .inl hk, Chg.of_below hb (fun k h1 h2 => by omega)⟩
def flushX (S : Ix) : Ix := { S with L := toRun (S.num + 1) S.L, num := S.num + 1, runs := S.runs + 1 }
section
variable {g base : Nat} {S : Ix} {ok okp : Nat → Prop} {bm dm : Nat} {rv : Value} {Db Dd : DataW Value} {RS : List Rn} {ad : Int → Nat}
theorem nwX {w : World} (h : Ix0 g base S ok okp w bm dm rv Db Dd RS ad) (hn : S.num ≤ 1000000000000000000) : ∀ r ∈ RS, (Lit.int .i64 r.n).wf = true := by
  intro r hr
  have := h.good.rng r hr
  exact WalkArith.wf_i64 (by omega)
set_option maxRecDepth 100000 in
set_option maxHeartbeats 4000000 in
theorem flush_end {w w1 : World} {rv' : Value} (h : Ix0 g base S ok okp w bm dm rv Db Dd RS ad) (hn : S.num ≤ 1000000000000000000)
    (X1 : w1.heap[g]? = some (.cells #[.int .i64 S.flush, .map (some bm), rv', .int .i64 (S.num + 1), .map (some dm)] TX (0, 0))) (R1 : kRun.R TRun w1 base (fun k => (ok k ∨ w.heap.size ≤ k) ∧ k ≠ g) rv' (rns RS ++ [(S.num + 1, bm)]))
    (C1 : Chg (fun k => k = g ∨ rv.ownBlock = some k) w w1) : StepX w g base (flushX S) ok okp ((w1.alloc (.map #[] 0)).setCell ⟨g, 1, none⟩ (.map (some w1.heap.size))) := by
  obtain ⟨w2, hw2⟩ : ∃ w2, w2 = w1.alloc (.map #[] 0) := ⟨_, rfl⟩
  rw [← hw2]
  have b2 : Below w1.heap.size w1 w2 := by rw [hw2]; exact below_alloc (Below.refl _ _) _
  have hgl := blk_lt h.blk
  have h1s := C1.size
  have hm2 : MapV w2 TI w1.heap.size (.map []) := by rw [hw2]; exact MapV.new w1 TI
  have c3 : Chg (fun k => k = g ∨ rv.ownBlock = some k) w (w2.setCell ⟨g, 1, none⟩ (.map (some w1.heap.size))) := (C1.then_below b2).setCell (p := ⟨g, 1, none⟩) (.inl (.inl rfl)) _
  have hrok : ∀ k, rv.ownBlock = some k → ok k := fun k hk => (h.row.1 k hk).1
  have hx2 := blk_set (blk_below X1 b2) 1 (.map (some w1.heap.size))
  simp only [List.setIfInBounds_toArray, List.set_cons_zero, List.set_cons_succ] at hx2
  obtain ⟨w3, hw3⟩ : ∃ w3, w3 = w2.setCell ⟨g, 1, none⟩ (.map (some w1.heap.size)) := ⟨_, rfl⟩
  rw [← hw3] at c3 hx2 ⊢
  have hnot : ∀ b, (∃ D k, MapV w k b D) → ¬ (b = g ∨ rv.ownBlock = some b) := by
    rintro b ⟨D, k, hM⟩ (e | e)
    · subst e; obtain ⟨es, c, h5, _⟩ := hM; rw [h.blk] at h5; cases h5
    · obtain ⟨inner, ho⟩ := Kd.R_own h.row
      obtain ⟨cells, hc⟩ := own_typed ho b e
      obtain ⟨es, c, h5, _⟩ := hM
      rw [hc] at h5; cases h5
  have hdoc : ∀ k, okp k → k < w.heap.size → w3.heap[k]? = w.heap[k]? := fun k hk hlt => c3.keep k hlt (fun e => h.dis k (by
    rcases e with e | e
    · rw [e]; exact h.oks.1
    · exact hrok k e) hk)
  refine ⟨fun k => ok k ∨ w.heap.size ≤ k, fun k => okp k ∧ k < w.heap.size, ⟨w1.heap.size, dm, rv', .map [], Dd, RS ++ [⟨S.num + 1, bm, Db⟩], ad, ?_⟩, fun k hk => hk, fun k hk => .inl hk.1, c3.mono (fun k _ hk => hk.elim (fun e => e ▸ h.oks.1) (hrok k))⟩
  exact {
    blk := hx2
    mb := by
      refine hm2.move ?_
      rw [hw3]
      exact Below.heap_setCell _ _ _ _ (show w1.heap.size ≠ g by omega)
    md := h.md.chg c3 (hnot dm ⟨_, _, h.md⟩)
    row := by
      rw [hw3]
      have := Kd.R_far (p := ⟨g, 1, none⟩) (Kd.R_below R1 b2) (fun k hk => hk.2) (.map (some w1.heap.size))
      simpa [rns] using this
    rm := fun r hr => by
      rcases List.mem_append.1 hr with hr | hr
      · exact (h.rm r hr).chg c3 (hnot _ ⟨_, _, h.rm r hr⟩)
      · obtain rfl := List.mem_singleton.1 hr
        exact h.mb.chg c3 (hnot _ ⟨_, _, h.mb⟩)
    good := good_flush h.good (WalkArith.wf_i64 (by have := h.good.num0; omega)) (fun id hh => h.mb.int_wf hh) bm
    len := by simp [flushX, h.len]
    lo := ⟨h.lo.1, by have := h.lo.1; omega, h.lo.2.2.1, fun r hr => by
      rcases List.mem_append.1 hr with hr | hr
      · exact h.lo.2.2.2 r hr
      · obtain rfl := List.mem_singleton.1 hr
        exact h.lo.2.1⟩
    oks := ⟨.inl h.oks.1, .inr h1s, .inl h.oks.2.2.1, fun r hr => by
      rcases List.mem_append.1 hr with hr | hr
      · exact .inl (h.oks.2.2.2 r hr)
      · obtain rfl := List.mem_singleton.1 hr
        exact .inl h.oks.2.1⟩
    ne := ⟨by have := h.md.lt; omega, fun r hr => by
      rcases List.mem_append.1 hr with hr | hr
      · have h6 := (h.rm r hr).lt
        exact ⟨by omega, (h.ne.2 r hr).2⟩
      · obtain rfl := List.mem_singleton.1 hr
        have h6 := h.mb.lt
        exact ⟨by simp only; omega, h.ne.1⟩⟩
    docs := fun e he => by
      obtain ⟨x, hx, rfl⟩ := List.mem_map.1 he
      have hd := (h.docs x hx).bound.step (w' := w3) (fun k hk hlt => hdoc k hk.1 hlt)
      split <;> exact hd
    dis := fun k hk hk2 => hk.elim (fun h7 => h.dis k h7 hk2.1) (fun h7 => by have := hk2.2; omega)
    small := by show (toRun _ S.L).length ≤ 256; unfold toRun; rw [List.length_map]; exact h.small
    fl := h.fl
    ids := fun e he => by
      obtain ⟨x, hx, rfl⟩ := List.mem_map.1 he
      have := h.ids x hx
      split <;> exact this }
set_option maxRecDepth 100000 in
set_option maxHeartbeats 4000000 in
theorem FlushP (w : World) (h : IsIdx g base S ok okp w) (hn : S.num ≤ 1000000000000000000) (hr : S.runs ≤ 8000000000000) :
    Calls Tryz.prog 34 #[at0 g] w fun e w' => e = .returned (.bool (decide (cntB S.L ≠ 0))) ∧ StepX w g base (if cntB S.L = 0 then S else flushX S) ok okp w' := by
  have hmm := @run_makeMap Tryz.prog
  obtain ⟨bm, dm, rv, Db, Dd, RS, ad, h⟩ := h
  have c1 : w.cell? ⟨g, 1, none⟩ = some (.map (some bm)) := by simp [World.cell?, h.blk]
  have hlen : ∀ ty, (Builtin.len_ #[89] ty #[.map (some bm)]).run Tryz.prog w = .ok (.int .i64 (size Db)) w := fun ty => World.ownsMap.len h.mb Tryz.underlying89 ty
  rw [h.good.sb] at hlen
  have HX := Aside0.mk h
  by_cases h0 : cntB S.L = 0
  · rw [h0] at hlen
    have hfin : decide (cntB S.L ≠ 0) = false ∧ (if cntB S.L = 0 then S else flushX S) = S := ⟨decide_eq_false (fun e => e h0), if_pos h0⟩
    rw [hfin.1, hfin.2]
    have HS := Aside0.mk (StepX.below ⟨bm, dm, rv, Db, Dd, RS, ad, h⟩ (Below.refl _ w))
    clear h h0 hfin
    go_enter Tryz.func34, Tryz.ntmps34
    go_wp2
    go_ret
    exact ⟨rfl, HS.out⟩
  · have hd : decide (((cntB S.L : Nat) : Int) = 0) = false := decide_eq_false (by omega)
    have hd2 : (((cntB S.L : Nat) : Int) == 0) = false := by simpa using h0
    have hfin : decide (cntB S.L ≠ 0) = true ∧ (if cntB S.L = 0 then S else flushX S) = flushX S := ⟨decide_eq_true h0, if_neg h0⟩
    rw [hfin.1, hfin.2]
    have hL := layRunP w g base S.flush S.num bm dm bm rv (rns RS) (fun k => ok k ∨ w.heap.size ≤ k) h.blk (Kd.R_mono h.row (fun k hk => ⟨.inl hk.1, hk.2⟩)) (fun k hk => .inr hk) (Nat.le_trans h.lo.1 (Nat.le_of_lt (blk_lt h.blk))) (by rw [List.length_map, h.len]; exact hr) ⟨h.good.num0, hn⟩
    have HL := Aside0.mk hL
    have HN := Aside0.mk hn
    clear h h0 hfin hL hn hr
    go_enter Tryz.func34, Tryz.ntmps34
    go_upto_region 4 with (first | (go_at_call 66; refine HL.out.mono ?_; rintro e w1 ⟨rfl, rv', p1, p2, p3⟩; have P1 := Aside0.mk p1; have P2 := Aside0.mk p2; have P3 := Aside0.mk p3; clear p1 p2 p3))
    have d1 : w1.cell? ⟨g, 1, none⟩ = some (.map (some bm)) := by simp [World.cell?, P1.out]
    have f1 : w1.frozen? ⟨g, 1, none⟩ = false := by simp [World.frozen?, P1.out]
    have hgl := blk_lt P1.out
    have d1a : (w1.alloc (.map #[] 0)).cell? ⟨g, 1, none⟩ = some (.map (some bm)) := pw_cell_below (below_alloc (Below.refl _ _) _) d1
    have HE := Aside0.mk (flush_end HX.out HN.out P1.out P2.out P3.out)
    rw [World.setCell_alloc_past _ _ _ _ hgl] at HE
    go_wp2
    go_ret
    exact ⟨rfl, HE.out⟩
end
end Go.Proofs.YtdambnclbpipdaaGreatDoor.Mi
namespace Go.Proofs.YtdambnclbpipdaaGreatDoor.Mj
set_option linter.unusedVariables false
set_option linter.unusedSimpArgs false
open Go.RowKit Go.Maps Go.Proofs.YtdambnclbpipdaaGreatDoorW.PrintWords Go.Proofs.YtdambnclbpipdaaGreatDoor.Hp Go.Proofs.YtdambnclbpipdaaGreatDoor.Fm Go.Proofs.YtdambnclbpipdaaGreatDoor.Ma Go.Proofs.YtdambnclbpipdaaGreatDoor.Mb Go.Proofs.YtdambnclbpipdaaGreatDoor.Mc Go.Proofs.YtdambnclbpipdaaGreatDoor.Me Go.Proofs.YtdambnclbpipdaaGreatDoor.Mg Go.Proofs.YtdambnclbpipdaaGreatDoor.Mf Go.Proofs.YtdambnclbpipdaaGreatDoor.Mh Go.Proofs.YtdambnclbpipdaaGreatDoor.Mi
def compactX (S : Ix) : Ix := if S.L = [] then { S with runs := 0, dead := 0 } else { S with L := allRun (S.num + 1) S.L, num := S.num + 1, runs := 1, dead := 0 }
def midW (w : World) (g : Nat) : World := ((((w.setCell ⟨g, 2, none⟩ nilS).setCell ⟨g, 1, none⟩ (.map (some w.heap.size))).setCell ⟨g, 4, none⟩ (.map (some (w.heap.size + 1)))).alloc (.map #[] 0)).alloc (.map #[] 0)
theorem mid_facts {w : World} {g : Nat} {f n b1 b2 b4 : Value} (hb : w.heap[g]? = some (.cells #[f, b1, b2, n, b4] TX (0, 0))) :
    (midW w g).heap[g]? = some (.cells #[f, .map (some w.heap.size), nilS, n, .map (some (w.heap.size + 1))] TX (0, 0)) ∧ MapV (midW w g) TI w.heap.size (.map []) ∧ MapV (midW w g) TGr (w.heap.size + 1) (.map []) ∧ Chg (fun k => k = g) w (midW w g) ∧ (midW w g).heap.size = w.heap.size + 2 := by
  unfold midW
  have h1 := blk_set hb 2 nilS
  have h2 := blk_set h1 1 (.map (some w.heap.size))
  have h3 := blk_set h2 4 (.map (some (w.heap.size + 1)))
  simp only [List.setIfInBounds_toArray, List.set_cons_zero, List.set_cons_succ] at h3
  have c3 : Chg (fun k => k = g) w (((w.setCell ⟨g, 2, none⟩ nilS).setCell ⟨g, 1, none⟩ (.map (some w.heap.size))).setCell ⟨g, 4, none⟩ (.map (some (w.heap.size + 1)))) :=
    (((Chg.refl (fun k => k = g) w).setCell (p := ⟨g, 2, none⟩) (.inl rfl) _).setCell (p := ⟨g, 1, none⟩) (.inl rfl) _).setCell (p := ⟨g, 4, none⟩) (.inl rfl) _
  have hs : (((w.setCell ⟨g, 2, none⟩ nilS).setCell ⟨g, 1, none⟩ (.map (some w.heap.size))).setCell ⟨g, 4, none⟩ (.map (some (w.heap.size + 1)))).heap.size = w.heap.size := by simp
  obtain ⟨v, hv⟩ : ∃ v, v = (((w.setCell ⟨g, 2, none⟩ nilS).setCell ⟨g, 1, none⟩ (.map (some w.heap.size))).setCell ⟨g, 4, none⟩ (.map (some (w.heap.size + 1)))) := ⟨_, rfl⟩
  rw [← hv] at h3 c3 hs ⊢
  have hs1 : (v.alloc (.map #[] 0)).heap.size = w.heap.size + 1 := by simp [hs]
  have m1 := MapV.new v TI
  have m2 := MapV.new (v.alloc (.map #[] 0)) TGr
  rw [hs] at m1
  rw [hs1] at m2
  have b1 := below_alloc (Below.refl v.heap.size v) (.map #[] 0)
  have b2 := below_alloc (Below.refl (v.alloc (.map #[] 0)).heap.size (v.alloc (.map #[] 0))) (.map #[] 0)
  exact ⟨blk_below (blk_below h3 b1) b2, m1.below b2, m2, (c3.then_below b1).then_below b2, by simp [hs]⟩
theorem len_zero {L : List En} : L.length = 0 ↔ L = [] := List.length_eq_zero_iff
section
variable {g base : Nat} {S : Ix} {ok okp : Nat → Prop} {bm dm : Nat} {rv : Value} {Db Dd : DataW Value} {RS : List Rn} {ad : Int → Nat}
theorem compact_end {w w1 w2 w3 : World} {RS' : List Rn} {rv' : Value} {S' : Ix} (h : Ix0 g base S ok okp w bm dm rv Db Dd RS ad) (B1 : Below w.heap.size w w1) (hsz : w.heap.size < w1.heap.size) (hw2 : w2 = midW w1 g) (C3 : Chg (fun k => k = g) w2 w3)
    (X3 : w3.heap[g]? = some (.cells #[.int .i64 S.flush, .map (some w1.heap.size), rv', .int .i64 S'.num, .map (some (w1.heap.size + 1))] TX (0, 0))) (R3 : kRun.R TRun w3 base (fun k => (ok k ∨ w.heap.size ≤ k) ∧ k ≠ g) rv' (rns RS'))
    (hRS : ∀ r ∈ RS', r.blk = w.heap.size ∧ MapV w1 TI w.heap.size r.D) (hG : GoodX gk ad S'.L S'.num (.map []) (.map []) RS' S'.dead) (hlen : RS'.length = S'.runs) (hL : ∀ e ∈ S'.L, ∃ x ∈ S.L, x.id = e.id ∧ x.b = e.b) (hl : S'.L.length = S.L.length) (hf : S'.flush = S.flush) :
    StepX w g base S' ok okp w3 := by
  have hx1 := blk_below h.blk B1
  obtain ⟨m1, m2, m3, m4, m5⟩ := mid_facts hx1
  rw [← hw2] at m1 m2 m3 m4 m5
  have hgl := blk_lt h.blk
  have hs1 := B1.size
  have c3 : Chg (fun k => k = g) w w3 := ((Chg.of_below B1 (S := fun k => k = g) (fun k h1 h2 => by omega)).trans m4 (fun _ _ h => h)).trans C3 (fun _ _ h => h)
  refine ⟨fun k => ok k ∨ w.heap.size ≤ k, fun k => okp k ∧ k < w.heap.size, ⟨w1.heap.size, w1.heap.size + 1, rv', .map [], .map [], RS', ad, ?_⟩, fun k hk => hk, fun k hk => .inl hk.1, c3.mono (fun k _ hk => hk ▸ h.oks.1)⟩
  exact {
    blk := by rw [X3]; simp [ixCells, hf]
    mb := m2.chg C3 (by omega)
    md := m3.chg C3 (by omega)
    row := R3
    rm := fun r hr => by
      obtain ⟨e1, e2⟩ := hRS r hr
      rw [e1]
      exact (e2.chg m4 (by omega)).chg C3 (by omega)
    good := hG
    len := hlen
    lo := ⟨h.lo.1, by have := h.lo.1; omega, by have := h.lo.1; omega, fun r hr => by rw [(hRS r hr).1]; have := h.lo.1; omega⟩
    oks := ⟨.inl h.oks.1, .inr hs1, .inr (by omega), fun r hr => .inr (by rw [(hRS r hr).1]; exact Nat.le_refl _)⟩
    ne := ⟨by omega, fun r hr => by rw [(hRS r hr).1]; omega⟩
    docs := fun e he => by
      obtain ⟨x, hx, e1, e2⟩ := hL e he
      rw [← e1, ← e2]
      exact (h.docs x hx).bound.step (fun k hk hlt => c3.keep k hlt (fun e => h.dis k (by rw [e]; exact h.oks.1) hk.1))
    dis := fun k hk hk2 => hk.elim (fun h7 => h.dis k h7 hk2.1) (fun h7 => by have := hk2.2; omega)
    small := by rw [hl]; exact h.small
    fl := by rw [hf]; exact h.fl
    ids := fun e he => by
      obtain ⟨x, hx, e1, e2⟩ := hL e he
      rw [← e1]
      exact h.ids x hx }
set_option maxRecDepth 100000 in
set_option maxHeartbeats 4000000 in
theorem CompactP (w : World) (h : IsIdx g base S ok okp w) (hn : S.num ≤ 1000000000000000000) :
    Calls Tryz.prog 35 #[at0 g] w fun e w' => e = .returned (.tuple #[]) ∧ StepX w g base (compactX S) ok okp w' := by
  have hmm := @run_makeMap Tryz.prog
  obtain ⟨bm, dm, rv, Db, Dd, RS, ad, h⟩ := h
  have HX := Aside0.mk h
  have HL := Aside0.mk (liveP w h (nwX h hn))
  have HN := Aside0.mk hn
  have HB := Aside0.mk h.blk
  obtain ⟨A, c, erv⟩ := Kd.R_slice h.row
  clear h hn
  go_enter Tryz.func35, Tryz.ntmps35
  go_upto_region 2 with (first | (go_at_call 54; refine HL.out.mono ?_; rintro e w1 ⟨D, rfl, p1, p2, p3⟩; have P1 := Aside0.mk p1; have P2 := Aside0.mk p2; have P3 := Aside0.mk p3; clear p1 p2 p3))
  have hb1 := blk_below HB.out P3.out
  have hgl := blk_lt hb1
  have d1 := blk_cell hb1 1
  have d2 := blk_cell hb1 2
  have d4 := blk_cell hb1 4
  simp only [List.getElem?_toArray, List.getElem?_cons_zero, List.getElem?_cons_succ, ixCells] at d1 d2 d4
  rw [erv] at d2
  have f1 := blk_frozen hb1 1
  have f2 := blk_frozen hb1 2
  have f4 := blk_frozen hb1 4
  clear hb1
  go_upto_region 3 with (fail)
  obtain ⟨w2, hw2⟩ : ∃ w2, w2 = midW w1 g := ⟨_, rfl⟩
  rw [show ((((w1.setCell ⟨g, 2, none⟩ (.slice none 0 0)).setCell ⟨g, 1, none⟩ (.map (some w1.heap.size))).setCell ⟨g, 4, none⟩ (.map (some (w1.heap.size + 1)))).alloc (.map #[] 0)).alloc (.map #[] 0) = w2 from hw2.symm]
  have hx1 := blk_below HB.out P3.out
  obtain ⟨m1, m2, m3, m4, m5⟩ := mid_facts hx1
  rw [← hw2] at m1 m2 m3 m4 m5
  have hsl := P1.out.lt
  have m6 := P1.out.chg m4 (by have := blk_lt HB.out; omega)
  have hlen : ∀ ty, (Builtin.len_ #[89] ty #[.map (some w.heap.size)]).run Tryz.prog w2 = .ok (.int .i64 (size D)) w2 := fun ty => World.ownsMap.len m6 Tryz.underlying89 ty
  rw [live_size P2.out HX.out.good.srt P1.out] at hlen
  have HW2 := Aside0.mk hw2
  have M1 := Aside0.mk m1
  clear hw2 hx1 m2 m3 m4 m6 d1 d2 d4 f1 f2 f4
  by_cases h0 : S.L = []
  · have hl0 : S.L.length = 0 := len_zero.2 h0
    rw [hl0] at hlen
    have HE := Aside0.mk (compact_end (S' := { S with runs := 0, dead := 0 }) (RS' := []) HX.out P3.out hsl HW2.out (Chg.refl _ w2) M1.out (Kd.R_nil _ _ _ _ _) (fun r hr => by cases hr) (good_none h0 HX.out.good.num0) rfl (fun e he => ⟨e, he, rfl, rfl⟩) rfl rfl)
    have e0 : compactX S = { S with runs := 0, dead := 0 } := if_pos h0
    rw [← e0] at HE
    clear h0 hl0 e0
    go_wp2
    go_end0
    exact ⟨rfl, HE.out⟩
  · have hlp : 0 < S.L.length := Nat.pos_of_ne_zero (fun e => h0 (len_zero.1 e))
    have hd : decide ((0 : Int) < ((S.L.length : Nat) : Int)) = true := decide_eq_true (by omega)
    have hd2 : decide (0 < S.L.length) = true := decide_eq_true hlp
    have e0 : compactX S = { S with L := allRun (S.num + 1) S.L, num := S.num + 1, runs := 1, dead := 0 } := if_neg h0
    have HE0 := Aside0.mk e0
    have HL2 := Aside0.mk (layRunP w2 g base S.flush S.num w1.heap.size (w1.heap.size + 1) w.heap.size nilS [] (fun k => ok k ∨ w.heap.size ≤ k) M1.out (Kd.R_nil _ _ _ _ _) (fun k hk => .inr (by omega)) (by have := HX.out.lo.1; have := blk_lt HB.out; omega) (by simp) ⟨HX.out.good.num0, HN.out⟩)
    clear h0 e0
    go_wp2_with (first | (go_at_call 66; refine HL2.out.mono ?_; rintro e w3 ⟨rfl, rv', q1, q2, q3⟩; have Q1 := Aside0.mk q1; have Q2 := Aside0.mk q2; have Q3 := Aside0.mk q3; clear q1 q2 q3))
    go_end0
    rw [HE0.out]
    refine ⟨rfl, compact_end (S' := { S with L := allRun (S.num + 1) S.L, num := S.num + 1, runs := 1, dead := 0 }) (RS' := [⟨S.num + 1, w.heap.size, D⟩]) HX.out P3.out hsl HW2.out (Q3.out.mono (fun k _ hk => hk.elim id (fun e => by simp [Value.ownBlock] at e))) Q1.out ?_ (fun r hr => ?_) (good_one P2.out HX.out.good.srt HX.out.good.num0 _) rfl (fun e he => ?_) (by simp [allRun]) rfl⟩
    · simpa [rns] using Q2.out
    · obtain rfl := List.mem_singleton.1 hr
      exact ⟨rfl, P1.out⟩
    · obtain ⟨x, hx, rfl⟩ := List.mem_map.1 he
      exact ⟨x, hx, rfl, rfl⟩
end
end Go.Proofs.YtdambnclbpipdaaGreatDoor.Mj
namespace Go.Proofs.YtdambnclbpipdaaGreatDoor.Mk
set_option linter.unusedVariables false
set_option linter.unusedSimpArgs false
open Go.RowKit Go.Maps Go.Proofs.YtdambnclbpipdaaGreatDoorW.PrintWords Go.Proofs.YtdambnclbpipdaaGreatDoor.Hp Go.Proofs.YtdambnclbpipdaaGreatDoor.Fm Go.Proofs.YtdambnclbpipdaaGreatDoor.Ma Go.Proofs.YtdambnclbpipdaaGreatDoor.Mb Go.Proofs.YtdambnclbpipdaaGreatDoor.Mc Go.Proofs.YtdambnclbpipdaaGreatDoor.Me Go.Proofs.YtdambnclbpipdaaGreatDoor.Mg Go.Proofs.YtdambnclbpipdaaGreatDoor.Mf Go.Proofs.YtdambnclbpipdaaGreatDoor.Mh Go.Proofs.YtdambnclbpipdaaGreatDoor.Mi
def delX (S : Ix) (id : Int) : Ix := match atE S.L id with | none => S | some e => { S with L := delE id S.L, dead := if e.run = 0 then S.dead else S.dead + 1 }
section
variable {g base : Nat} {S S' : Ix} {ok okp okp' : Nat → Prop} {bm dm : Nat} {rv : Value} {Db Dd D' : DataW Value} {RS : List Rn} {ad ad' : Int → Nat} {w w' : World}
theorem ix_maps (h : Ix0 g base S ok okp w bm dm rv Db Dd RS ad) {b : Nat} {Db' Dd' : DataW Value} (hb : b = bm ∨ b = dm) (hg : w.grownBy w' (some b)) (hm : MapV w' TI bm Db') (hd : MapV w' TGr dm Dd') (hG : GoodX gk ad' S'.L S'.num Db' Dd' RS S'.dead)
    (h1 : S'.flush = S.flush) (h2 : S'.num = S.num) (h3 : S'.runs = S.runs) (hdocs : ∀ e ∈ S'.L, DocAt (ad' e.id) e.id e.b base okp' w') (hdis : ∀ k, ok k → ¬ okp' k) (hl : S'.L.length ≤ 256) (hids : ∀ e ∈ S'.L, 0 ≤ e.id ∧ e.id ≤ 2147483647) : Ix0 g base S' ok okp' w' bm dm rv Db' Dd' RS ad' := by
  have hgn := h.g_ne
  have hne : ∀ k, k ≠ bm → k ≠ dm → k < w.heap.size → w'.heap[k]? = w.heap[k]? := fun k k1 k2 hlt => hg.block k hlt (fun e => by injection e with e; rcases hb with e2 | e2 <;> omega)
  exact {
    blk := by
      have := (hne g (Ne.symm hgn.1) (Ne.symm hgn.2.1) (blk_lt h.blk)).trans h.blk
      rw [this]; simp [ixCells, h1, h2]
    mb := hm
    md := hd
    row := Kd.R_step (Kd.R_bound h.row) (fun k hk hlt => hne k (by
      rintro rfl
      obtain ⟨_, _, _, q, _, cells, hc⟩ := hk
      obtain ⟨es, c, h4, _⟩ := h.mb
      rw [hc] at h4; cases h4) (by
      rintro rfl
      obtain ⟨_, _, _, q, _, cells, hc⟩ := hk
      obtain ⟨es, c, h4, _⟩ := h.md
      rw [hc] at h4; cases h4) hlt) |> fun z => Kd.R_mono z (fun k hk => hk.1)
    rm := fun r hr => (h.rm r hr).move (hne r.blk (h.ne.2 r hr).1 (h.ne.2 r hr).2 (h.rm r hr).lt)
    good := hG
    len := by rw [h3]; exact h.len
    lo := h.lo
    oks := h.oks
    ne := h.ne
    docs := hdocs
    dis := hdis
    small := hl
    fl := by rw [h1]; exact h.fl
    ids := hids }
theorem del_mem {id : Int} {L : List En} {e : En} (h : e ∈ delE id L) : e ∈ L := (List.mem_filter.1 h).1
theorem del_end {w1 w2 : World} {b : Nat} {Db' Dd' : DataW Value} {id : Int} (h : Ix0 g base S ok okp w bm dm rv Db Dd RS ad) (hB : Below w.heap.size w w1) (hb : b = bm ∨ b = dm) (hg : w1.grownBy w2 (some b)) (hm : MapV w2 TI bm Db') (hd : MapV w2 TGr dm Dd')
    (hG : GoodX gk ad (delE id S.L) S.num Db' Dd' RS S'.dead) (e1 : S'.L = delE id S.L) (e2 : S'.num = S.num) (e3 : S'.flush = S.flush) (e4 : S'.runs = S.runs) : StepX w g base S' ok okp w2 := by
  have h1 := h.step (w' := w1) (fun k _ hlt => hB.block k hlt)
  have hok : ok b := by rcases hb with rfl | rfl; exact h.oks.2.1; exact h.oks.2.2.1
  refine ⟨ok, okp, ⟨bm, dm, rv, Db', Dd', RS, ad, ix_maps h1 hb hg hm hd (by rw [e1, e2]; exact hG) e3 e2 e4 (fun e he => ?_) h.dis (by rw [e1]; exact Nat.le_trans (List.length_filter_le _ _) h.small) (fun e he => ?_)⟩, fun k hk => .inl hk, fun k hk => .inl hk, ?_⟩
  · rw [e1] at he
    exact (h1.docs e (del_mem he)).bound.step (fun k hk hlt => hg.block k hlt (fun e => by injection e with e; rw [e] at hk; exact h.dis _ hok hk.1)) |>.mono (fun k hk => hk.1)
  · rw [e1] at he
    exact h.ids e (del_mem he)
  · exact (Chg.of_below hB (S := ok) (fun k h1 h2 => by omega)).grown hg (fun k hk => by injection hk with hk; rw [← hk]; exact .inl hok)
set_option maxRecDepth 100000 in
set_option maxHeartbeats 4000000 in
theorem DeleteP (w : World) (h : IsIdx g base S ok okp w) (hn : S.num ≤ 1000000000000000000) (hd : S.dead ≤ 8000000000000) (id : Int) (hid : (Lit.int .i64 id).wf = true) :
    Calls Tryz.prog 18 #[at0 g, .int .i64 id] w fun e w' => e = .returned (.int .i64 (if (atE S.L id).isSome = true then 0 else 10)) ∧ StepX w g base (delX S id) ok okp w' := by
  obtain ⟨bm, dm, rv, Db, Dd, RS, ad, h⟩ := h
  have HX := Aside0.mk h
  have HF := Aside0.mk (findP w h (nwX h hn) id hid)
  have hk := keyOf_int_mk Tryz.underlying3 hid
  have HN := Aside0.mk hn
  have HD := Aside0.mk hd
  have HNW := Aside0.mk (nwX h hn)
  cases he : atE S.L id with
  | none =>
    rw [he] at HF
    have e0 : delX S id = S := by unfold delX; rw [he]
    rw [e0]
    have HE := Aside0.mk (fun (w' : World) (hB : Below w.heap.size w w') => StepX.below (S := S) (g := g) (base := base) (ok := ok) (okp := okp) ⟨bm, dm, rv, Db, Dd, RS, ad, h⟩ hB)
    clear h hn hd he e0
    go_enter Tryz.func18, Tryz.ntmps18
    go_wp2_with (first | (go_at_call 53; refine HF.out.mono ?_; rintro e w1 ⟨rfl, p1⟩; have P1 := Aside0.mk p1; clear p1; simp only [lvE, runOf]))
    go_ret
    exact ⟨rfl, HE.out _ P1.out⟩
  | some e =>
    rw [he] at HF
    have HEQ := Aside0.mk he
    by_cases h0 : e.run = 0
    · have hlv : lvE ad (some e) = at0 (ad e.id) ∧ runOf (some e) = -1 := by simp [lvE, runOf, h0]
      rw [hlv.1, hlv.2] at HF
      have H0 := Aside0.mk h0
      have e0 : delX S id = { S with L := delE id S.L, dead := S.dead } := by unfold delX; rw [he]; simp [h0]
      rw [e0]
      clear h hn hd he e0 hlv h0
      go_enter Tryz.func18, Tryz.ntmps18
      go_upto_region 8 with (first | (go_at_call 53; refine HF.out.mono ?_; rintro e w1 ⟨rfl, p1⟩; have P1 := Aside0.mk p1; clear p1))
      have c1 := blk_cell (blk_below HX.out.blk P1.out) 1
      simp only [List.getElem?_toArray, List.getElem?_cons_zero, List.getElem?_cons_succ, ixCells] at c1
      go_wp2_with (first | (at_delete; refine wp_delete rfl _ _ 89 TI rfl _ keyI Tryz.underlying89 bm Db rfl (HX.out.mb.below P1.out) _ _ rfl hk ?_; intro w2 q1 q2; have Q1 := Aside0.mk q1; have Q2 := Aside0.mk q2; clear q1 q2) | go_in)
      go_ret
      exact ⟨rfl, del_end HX.out P1.out (.inl rfl) Q2.out Q1.out ((HX.out.md.below P1.out).move (Q2.out.block dm ((HX.out.md.below P1.out).lt) (fun e => by injection e with e; exact HX.out.ne.1 e.symm))) (good_del_buf HX.out.good (HX.out.mb.tidy keyI) HEQ.out H0.out) rfl rfl rfl rfl⟩
    · have hr1 : 1 ≤ e.run ∧ e.run ≤ 1000000000000000000 := by
        obtain ⟨r, hr, e1⟩ := (h.good.ex e (atE_mem he).1).resolve_left h0
        have := h.good.rng r hr
        omega
      have hlv : lvE ad (some e) = at0 (ad e.id) ∧ runOf (some e) = e.run := by simp [lvE, runOf, h0]
      rw [hlv.1, hlv.2] at HF
      have hw : (Lit.int .i64 e.run).wf = true := WalkArith.wf_i64 (by omega)
      have hkg := gk_key e.run id hw hid
      have H0 := Aside0.mk h0
      have HW := Aside0.mk hw
      have HID := Aside0.mk hid
      have hdn : decide (e.run < 0) = false := decide_eq_false (by omega)
      have e0 : delX S id = { S with L := delE id S.L, dead := S.dead + 1 } := by unfold delX; rw [he]; simp [h0]
      rw [e0]
      clear h hn hd he e0 hlv h0 hr1 hw hid
      go_enter Tryz.func18, Tryz.ntmps18
      go_upto_region 4 with (first | (go_at_call 53; refine HF.out.mono ?_; rintro e w1 ⟨rfl, p1⟩; have P1 := Aside0.mk p1; clear p1))
      have c4 := blk_cell (blk_below HX.out.blk P1.out) 4
      simp only [List.getElem?_toArray, List.getElem?_cons_zero, List.getElem?_cons_succ, ixCells] at c4
      go_wp2_with (first | (at_mapUpdate; refine wp_store rfl _ _ _ 90 rfl TGr _ keyG Tryz.underlying90 dm Dd rfl (HX.out.md.below P1.out) (by rw [HX.out.good.sd]; have := HD.out; unfold maxLen; omega) _ _ _ rfl rfl hkg ?_; intro w2 q1 q2; have Q1 := Aside0.mk q1; have Q2 := Aside0.mk q2; clear q1 q2) | go_in)
      go_ret
      exact ⟨rfl, del_end HX.out P1.out (.inr rfl) Q2.out ((HX.out.mb.below P1.out).move (Q2.out.block bm ((HX.out.mb.below P1.out).lt) (fun e => by injection e with e; exact HX.out.ne.1 e))) Q1.out (good_del_run HX.out.good (HX.out.md.tidy keyG) HEQ.out H0.out (fun n i hn hi hh => gk_inj hn hi HW.out HID.out hh) HNW.out (fun r hr i hh => (HX.out.rm r hr).int_wf hh) (gk_lit HW.out HID.out)) rfl rfl rfl rfl⟩
end
end Go.Proofs.YtdambnclbpipdaaGreatDoor.Mk
