/-
  Several texts of this claim in one: what its law's proof uses.
-/
import Derived.Test.YthffpkdadffinaaDoorMWBS2
import Derived.Test.YthffpkdadffinaaDoorMWBS14
import Derived.Test.YthffpkdadffinaaDoorMWBS11
import Derived.Test.YthffpkdadffinaaDoorMWBS10
import Derived.Test.YthffpkdadffinaaDoorMWBS6
import Derived.Test.YthffpkdadffinaaDoorMWBS4
import Derived.Test.YthffpkdadffinaaDoorMWBS12
import Derived.BigQuiet
namespace Go.Proofs.YthffpkdadffinaaDoor.X
open Go.RowKit YthffpkdadffinaaDoorW.PrintWords YthffpkdadffinaaDoorW.PrintLast YthffpkdadffinaaDoorW.PrintMore
attribute [local go_sem] max2_int min2_int max_two min_two max_three min_three max_four min_four   
set_option linter.unusedVariables false
set_option linter.unusedSimpArgs false
def words_within.f (k : Nat) (l0 : List (S67)) (a1 : Int) : Option (Bool) := if 0 ≤ a1 then (if a1 < (l0.length : Int) then ((words_kind.f ((rd_T67 l0 a1).f0)).bind fun t377 => (if t377 = 0 then ((words_joint.f k ((rd_T67 l0 a1).f0)).bind fun t379 => (if t379 = 0 then (some false) else (if a1 > 0 then (if (wrap64 (a1 + 1)) < (l0.length : Int) then (if 0 ≤ (wrap64 (a1 - 1)) then (if (wrap64 (a1 - 1)) < (l0.length : Int) then ((words_kind.f ((rd_T67 l0 (wrap64 (a1 - 1))).f0)).bind fun t381 => (if t381 = t379 then (if 0 ≤ (wrap64 (a1 + 1)) then ((words_kind.f ((rd_T67 l0 (wrap64 (a1 + 1))).f0)).bind fun t383 => (some (t383 == t379))) else (none)) else (some false))) else (none)) else (none)) else (some false)) else (some false)))) else (some true))) else (none)) else (none)
theorem words_within.mono : ∀ a0 a1 k, LeO (words_within.f k a0 a1) (words_within.f (k + 1) a0 a1) := by
 intro a0 a1 k; unfold words_within.f; repeat' first | (with_reducible exact words_joint.mono _ _) | (with_reducible exact LeO.refl _) | (with_reducible exact LeO.none _) | (with_reducible refine LeO.ite ?_ ?_) | (with_reducible refine LeO.bind ?_ (fun _ => ?_)) | exact words_joint.mono _ _ | exact LeO.none _ | refine LeO.ite ?_ ?_ | refine LeO.bind ?_ (fun _ => ?_)
set_option maxHeartbeats 8000000 in
set_option maxRecDepth 100000 in
theorem words_within.calls (k : Nat) (A0 : Option Addr) (c0 : Nat) (l0 : List (S67)) (a1 : Int) (r : Bool) (w : World) (hr0 : Kd.C k67 w A0 l0.length l0) (hc0 : l0.length ≤ c0) (h : words_within.f k l0 a1 = some r) :
  Calls Tryd.prog 69 #[.slice A0 l0.length c0, .int .i64 a1] w fun e w' => e = .returned (.bool r) ∧ Below w.heap.size w w' := by
 have HR0 := Aside0.mk hr0; have HC0 := Aside0.mk hc0; clear hr0 hc0; have HB := Aside0.mk (Below.refl w.heap.size w); have H : (if 0 ≤ a1 then (if a1 < (l0.length : Int) then ((words_kind.f ((rd_T67 l0 a1).f0)).bind fun t377 => (if t377 = 0 then ((words_joint.f k ((rd_T67 l0 a1).f0)).bind fun t379 => (if t379 = 0 then (some false) else (if a1 > 0 then (if (wrap64 (a1 + 1)) < (l0.length : Int) then (if 0 ≤ (wrap64 (a1 - 1)) then (if (wrap64 (a1 - 1)) < (l0.length : Int) then ((words_kind.f ((rd_T67 l0 (wrap64 (a1 - 1))).f0)).bind fun t381 => (if t381 = t379 then (if 0 ≤ (wrap64 (a1 + 1)) then ((words_kind.f ((rd_T67 l0 (wrap64 (a1 + 1))).f0)).bind fun t383 => (some (t383 == t379))) else (none)) else (some false))) else (none)) else (none)) else (some false)) else (some false)))) else (some true))) else (none)) else (none)) = some r := h; clear h; by_cases c3 : 0 ≤ a1
 ·rw [if_pos c3] at H; have c3b0 : decide (0 ≤ a1) = true := decide_eq_true c3; clear c3; by_cases c4 : a1 < (l0.length : Int)
  ·rw [if_pos c4] at H; have c4b0 : decide (a1 < (l0.length : Int)) = true := decide_eq_true c4; clear c4; replace H := Option.bind_eq_some_iff.mp H; obtain ⟨t377, A50, H⟩ := H; (try dsimp only at H); have A5 := Aside0.mk A50; clear A50; by_cases c6 : t377 = 0
   ·rw [if_pos c6] at H; have c6b0 : (t377 == 0) = true := beq_iff_eq.mpr c6; have c6b1 : (t377 != 0) = false := bne_eq_false_iff_eq.mpr c6; clear c6; replace H := Option.bind_eq_some_iff.mp H; obtain ⟨t379, A70, H⟩ := H; (try dsimp only at H); have A7 := Aside0.mk A70; clear A70; by_cases c8 : t379 = 0
    ·rw [if_pos c8] at H; have c8b0 : (t379 == 0) = true := beq_iff_eq.mpr c8; have c8b1 : (t379 != 0) = false := bne_eq_false_iff_eq.mpr c8; clear c8; obtain rfl := Option.some.inj H; have p376 : 0 ≤ (a1 : Int) := of_decide_eq_true (by first | (with_reducible assumption) | assumption); have q376 : a1 < (l0.length : Int) := of_decide_eq_true (by first | (with_reducible assumption) | assumption); obtain ⟨ad376, e376, hx376_0, hx376_1, hx376_2⟩ := at_T67 HR0.out a1 p376 q376; cases e376; replace p376 := eq_true p376; replace q376 := eq_true q376; go_enter Tryd.func69, Tryd.ntmps69; go_wp2_with (first | ((with_reducible refine gate_callee (f := 90) rfl ?_); refine goesL_ (some 11) rfl rfl Tryd.func90 (by kernel_rfl) rfl #[.string ((rd_T67 l0 a1).f0)] rfl (by (try simp only [List.map_toArray, List.map_cons, List.map_nil]); first | done | rfl | (simp only [List.length_drop, List.length_take]; rfl)) ?_; (with_reducible refine (words_kind.calls ((rd_T67 l0 a1).f0) t377 _ A5.out).mono ?_); rintro e w9 ⟨rfl, hb⟩; refine ⟨_, rfl, ?_⟩; have n0_ := Aside0.mk (below_step (by repeat (first | (with_reducible first | exact HB.out | apply below_alloc | apply pw_below_drewN | apply below_drew1) | exact HB.out)) hb); clear HB; have HB := n0_; clear n0_; (try clear hb); (try clear hb2); (try clear hk); (try clear hi); have p378 : 0 ≤ (a1 : Int) := of_decide_eq_true (by first | (with_reducible assumption) | assumption); have q378 : a1 < (l0.length : Int) := of_decide_eq_true (by first | (with_reducible assumption) | assumption); obtain ⟨ad378, e378, hx378_0, hx378_1, hx378_2⟩ := at_T67 HR0.out a1 p378 q378; obtain rfl : ad376 = ad378 := (by injection e378); replace hx378_0 := (HB.out.cell (World.block_lt_of_cell? w _ hx378_0)).trans hx378_0; replace hx378_1 := (HB.out.cell (World.block_lt_of_cell? w _ hx378_1)).trans hx378_1; replace hx378_2 := (HB.out.cell (World.block_lt_of_cell? w _ hx378_2)).trans hx378_2; replace p378 := eq_true p378; replace q378 := eq_true q378) | ((with_reducible refine gate_callee (f := 91) rfl ?_); refine goesL_ (some 18) rfl rfl Tryd.func91 (by kernel_rfl) rfl #[.string ((rd_T67 l0 a1).f0)] rfl (by (try simp only [List.map_toArray, List.map_cons, List.map_nil]); first | done | rfl | (simp only [List.length_drop, List.length_take]; rfl)) ?_; (with_reducible refine (words_joint.calls k ((rd_T67 l0 a1).f0) t379 _ A7.out).mono ?_); rintro e w' ⟨rfl, ⟨nd, rfl⟩⟩; refine ⟨_, rfl, ?_⟩)); go_ret; exact ⟨by first | rfl | (simp [errW_none, errW_some] <;> rfl) | (simp [*, errW_none, errW_some] <;> rfl), by repeat (first | (with_reducible first | exact HB.out | apply below_alloc | apply pw_below_drewN | apply below_drew1) | exact HB.out)⟩
    ·rw [if_neg c8] at H; have c8b0 : (t379 == 0) = false := beq_eq_false_iff_ne.mpr c8; have c8b1 : (t379 != 0) = true := bne_iff_ne.mpr c8; by_cases c10 : a1 > 0
     ·rw [if_pos c10] at H; have c10b0 : decide (0 < a1) = true := decide_eq_true c10; clear c10; by_cases c11 : (wrap64 (a1 + 1)) < (l0.length : Int)
      ·rw [if_pos c11] at H; have c11b0 : decide ((wrap64 (a1 + 1)) < (l0.length : Int)) = true := decide_eq_true c11; clear c11; obtain ⟨ji12, hji12⟩ : ∃ j_ : Int, (wrap64 (a1 - 1)) = j_ := ⟨_, rfl⟩; replace H : (if 0 ≤ (ji12) then (if (ji12) < (l0.length : Int) then ((words_kind.f ((rd_T67 l0 (ji12)).f0)).bind fun t381 => (if t381 = t379 then (if 0 ≤ (wrap64 (a1 + 1)) then ((words_kind.f ((rd_T67 l0 (wrap64 (a1 + 1))).f0)).bind fun t383 => (some (t383 == t379))) else (none)) else (some false))) else (none)) else (none)) = some r := by first | (rw [hji12] at H; exact H) | (simp only [hji12] at H ⊢; exact H)
       (try rw [hji12] at A5)
       (try rw [hji12] at A7)
       have hji12w : (IntKind.i64.wrap (a1 - 1)) = ji12 := (i64_w _).trans hji12; by_cases c13 : 0 ≤ (ji12)
       ·rw [if_pos c13] at H; have c13b0 : decide (0 ≤ (ji12)) = true := decide_eq_true c13; clear c13; by_cases c14 : (ji12) < (l0.length : Int)
        ·rw [if_pos c14] at H; have c14b0 : decide ((ji12) < (l0.length : Int)) = true := decide_eq_true c14; clear c14; replace H := Option.bind_eq_some_iff.mp H; obtain ⟨t381, A150, H⟩ := H; (try dsimp only at H); have A15 := Aside0.mk A150; clear A150; by_cases c16 : t381 = t379
         ·rw [if_pos c16] at H; have c16b0 : (t381 == t379) = true := beq_iff_eq.mpr c16; have c16b1 : (t381 != t379) = false := bne_eq_false_iff_eq.mpr c16; clear c16; obtain ⟨ji17, hji17⟩ : ∃ j_ : Int, (wrap64 (a1 + 1)) = j_ := ⟨_, rfl⟩; replace H : (if 0 ≤ (ji17) then ((words_kind.f ((rd_T67 l0 (ji17)).f0)).bind fun t383 => (some (t383 == t379))) else (none)) = some r := by first | (rw [hji17] at H; exact H) | (simp only [hji17] at H ⊢; exact H)
          (try rw [hji17] at c11b0)
          (try rw [hji17] at A5)
          (try rw [hji17] at A7)
          (try rw [hji17] at A15)
          have hji17w : (IntKind.i64.wrap (a1 + 1)) = ji17 := (i64_w _).trans hji17; by_cases c18 : 0 ≤ (ji17)
          ·rw [if_pos c18] at H; have c18b0 : decide (0 ≤ (ji17)) = true := decide_eq_true c18; clear c18; replace H := Option.bind_eq_some_iff.mp H; obtain ⟨t383, A190, H⟩ := H; replace H : (some (t383 == t379)) = some r := H; have A19 := Aside0.mk A190; clear A190; obtain rfl := Option.some.inj H; have p376 : 0 ≤ (a1 : Int) := of_decide_eq_true (by first | (with_reducible assumption) | assumption); have q376 : a1 < (l0.length : Int) := of_decide_eq_true (by first | (with_reducible assumption) | assumption); obtain ⟨ad376, e376, hx376_0, hx376_1, hx376_2⟩ := at_T67 HR0.out a1 p376 q376; cases e376; replace p376 := eq_true p376; replace q376 := eq_true q376; go_enter Tryd.func69, Tryd.ntmps69; go_wp2_with (first | ((with_reducible refine gate_callee (f := 90) rfl ?_); refine goesL_ (some 11) rfl rfl Tryd.func90 (by kernel_rfl) rfl #[.string ((rd_T67 l0 a1).f0)] rfl (by (try simp only [List.map_toArray, List.map_cons, List.map_nil]); first | done | rfl | (simp only [List.length_drop, List.length_take]; rfl)) ?_; (with_reducible refine (words_kind.calls ((rd_T67 l0 a1).f0) t377 _ A5.out).mono ?_); rintro e w20 ⟨rfl, hb⟩; refine ⟨_, rfl, ?_⟩; have n0_ := Aside0.mk (below_step (by repeat (first | (with_reducible first | exact HB.out | apply below_alloc | apply pw_below_drewN | apply below_drew1) | exact HB.out)) hb); clear HB; have HB := n0_; clear n0_; (try clear hb); (try clear hb2); (try clear hk); (try clear hi); have p378 : 0 ≤ (a1 : Int) := of_decide_eq_true (by first | (with_reducible assumption) | assumption); have q378 : a1 < (l0.length : Int) := of_decide_eq_true (by first | (with_reducible assumption) | assumption); obtain ⟨ad378, e378, hx378_0, hx378_1, hx378_2⟩ := at_T67 HR0.out a1 p378 q378; obtain rfl : ad376 = ad378 := (by injection e378); replace hx378_0 := (HB.out.cell (World.block_lt_of_cell? w _ hx378_0)).trans hx378_0; replace hx378_1 := (HB.out.cell (World.block_lt_of_cell? w _ hx378_1)).trans hx378_1; replace hx378_2 := (HB.out.cell (World.block_lt_of_cell? w _ hx378_2)).trans hx378_2; replace p378 := eq_true p378; replace q378 := eq_true q378) | ((with_reducible refine gate_callee (f := 91) rfl ?_); refine goesL_ (some 18) rfl rfl Tryd.func91 (by kernel_rfl) rfl #[.string ((rd_T67 l0 a1).f0)] rfl (by (try simp only [List.map_toArray, List.map_cons, List.map_nil]); first | done | rfl | (simp only [List.length_drop, List.length_take]; rfl)) ?_; (with_reducible refine (words_joint.calls k ((rd_T67 l0 a1).f0) t379 _ A7.out).mono ?_); rintro e w' ⟨rfl, ⟨nd, rfl⟩⟩; refine ⟨_, rfl, ?_⟩; have p380 : 0 ≤ ((ji12) : Int) := of_decide_eq_true (by first | (with_reducible assumption) | assumption); have q380 : (ji12) < (l0.length : Int) := of_decide_eq_true (by first | (with_reducible assumption) | assumption); obtain ⟨ad380, e380, hx380_0, hx380_1, hx380_2⟩ := at_T67 HR0.out (ji12) p380 q380; obtain rfl : ad376 = ad380 := (by injection e380); replace hx380_0 := (HB.out.cell (World.block_lt_of_cell? w _ hx380_0)).trans hx380_0; replace hx380_1 := (HB.out.cell (World.block_lt_of_cell? w _ hx380_1)).trans hx380_1; replace hx380_2 := (HB.out.cell (World.block_lt_of_cell? w _ hx380_2)).trans hx380_2; replace p380 := eq_true p380; replace q380 := eq_true q380) | (go_at_call 90; (with_reducible refine (words_kind.calls ((rd_T67 l0 (ji12)).f0) t381 _ A15.out).mono ?_); rintro e w21 ⟨rfl, hb⟩; have n0_ := Aside0.mk (below_step (by repeat (first | (with_reducible first | exact HB.out | apply below_alloc | apply pw_below_drewN | apply below_drew1) | exact HB.out)) hb); clear HB; have HB := n0_; clear n0_; (try clear hb); (try clear hb2); (try clear hk); (try clear hi); have p382 : 0 ≤ ((ji17) : Int) := of_decide_eq_true (by first | (with_reducible assumption) | assumption); have q382 : (ji17) < (l0.length : Int) := of_decide_eq_true (by first | (with_reducible assumption) | assumption); obtain ⟨ad382, e382, hx382_0, hx382_1, hx382_2⟩ := at_T67 HR0.out (ji17) p382 q382; obtain rfl : ad376 = ad382 := (by injection e382); replace hx382_0 := (HB.out.cell (World.block_lt_of_cell? w _ hx382_0)).trans hx382_0; replace hx382_1 := (HB.out.cell (World.block_lt_of_cell? w _ hx382_1)).trans hx382_1; replace hx382_2 := (HB.out.cell (World.block_lt_of_cell? w _ hx382_2)).trans hx382_2; replace p382 := eq_true p382; replace q382 := eq_true q382) | (go_at_call 90; (with_reducible refine (words_kind.calls ((rd_T67 l0 (ji17)).f0) t383 _ A19.out).mono ?_); rintro e w22 ⟨rfl, hb⟩; have n0_ := Aside0.mk (below_step (by repeat (first | (with_reducible first | exact HB.out | apply below_alloc | apply pw_below_drewN | apply below_drew1) | exact HB.out)) hb); clear HB; have HB := n0_; clear n0_; (try clear hb); (try clear hb2); (try clear hk); (try clear hi))); go_ret; exact ⟨by first | rfl | (simp [errW_none, errW_some] <;> rfl) | (simp only [← hji12, ← hji17]; first | rfl | (simp [errW_none, errW_some] <;> rfl)) | (simp [*, errW_none, errW_some] <;> rfl), by repeat (first | (with_reducible first | exact HB.out | apply below_alloc | apply pw_below_drewN | apply below_drew1) | exact HB.out)⟩
          ·rw [if_neg c18] at H; exact absurd H (by simp)
         ·rw [if_neg c16] at H; have c16b0 : (t381 == t379) = false := beq_eq_false_iff_ne.mpr c16; have c16b1 : (t381 != t379) = true := bne_iff_ne.mpr c16; obtain rfl := Option.some.inj H; have p376 : 0 ≤ (a1 : Int) := of_decide_eq_true (by first | (with_reducible assumption) | assumption); have q376 : a1 < (l0.length : Int) := of_decide_eq_true (by first | (with_reducible assumption) | assumption); obtain ⟨ad376, e376, hx376_0, hx376_1, hx376_2⟩ := at_T67 HR0.out a1 p376 q376; cases e376; replace p376 := eq_true p376; replace q376 := eq_true q376; go_enter Tryd.func69, Tryd.ntmps69; go_wp2_with (first | ((with_reducible refine gate_callee (f := 90) rfl ?_); refine goesL_ (some 11) rfl rfl Tryd.func90 (by kernel_rfl) rfl #[.string ((rd_T67 l0 a1).f0)] rfl (by (try simp only [List.map_toArray, List.map_cons, List.map_nil]); first | done | rfl | (simp only [List.length_drop, List.length_take]; rfl)) ?_; (with_reducible refine (words_kind.calls ((rd_T67 l0 a1).f0) t377 _ A5.out).mono ?_); rintro e w23 ⟨rfl, hb⟩; refine ⟨_, rfl, ?_⟩; have n0_ := Aside0.mk (below_step (by repeat (first | (with_reducible first | exact HB.out | apply below_alloc | apply pw_below_drewN | apply below_drew1) | exact HB.out)) hb); clear HB; have HB := n0_; clear n0_; (try clear hb); (try clear hb2); (try clear hk); (try clear hi); have p378 : 0 ≤ (a1 : Int) := of_decide_eq_true (by first | (with_reducible assumption) | assumption); have q378 : a1 < (l0.length : Int) := of_decide_eq_true (by first | (with_reducible assumption) | assumption); obtain ⟨ad378, e378, hx378_0, hx378_1, hx378_2⟩ := at_T67 HR0.out a1 p378 q378; obtain rfl : ad376 = ad378 := (by injection e378); replace hx378_0 := (HB.out.cell (World.block_lt_of_cell? w _ hx378_0)).trans hx378_0; replace hx378_1 := (HB.out.cell (World.block_lt_of_cell? w _ hx378_1)).trans hx378_1; replace hx378_2 := (HB.out.cell (World.block_lt_of_cell? w _ hx378_2)).trans hx378_2; replace p378 := eq_true p378; replace q378 := eq_true q378) | ((with_reducible refine gate_callee (f := 91) rfl ?_); refine goesL_ (some 18) rfl rfl Tryd.func91 (by kernel_rfl) rfl #[.string ((rd_T67 l0 a1).f0)] rfl (by (try simp only [List.map_toArray, List.map_cons, List.map_nil]); first | done | rfl | (simp only [List.length_drop, List.length_take]; rfl)) ?_; (with_reducible refine (words_joint.calls k ((rd_T67 l0 a1).f0) t379 _ A7.out).mono ?_); rintro e w' ⟨rfl, ⟨nd, rfl⟩⟩; refine ⟨_, rfl, ?_⟩; have p380 : 0 ≤ ((ji12) : Int) := of_decide_eq_true (by first | (with_reducible assumption) | assumption); have q380 : (ji12) < (l0.length : Int) := of_decide_eq_true (by first | (with_reducible assumption) | assumption); obtain ⟨ad380, e380, hx380_0, hx380_1, hx380_2⟩ := at_T67 HR0.out (ji12) p380 q380; obtain rfl : ad376 = ad380 := (by injection e380); replace hx380_0 := (HB.out.cell (World.block_lt_of_cell? w _ hx380_0)).trans hx380_0; replace hx380_1 := (HB.out.cell (World.block_lt_of_cell? w _ hx380_1)).trans hx380_1; replace hx380_2 := (HB.out.cell (World.block_lt_of_cell? w _ hx380_2)).trans hx380_2; replace p380 := eq_true p380; replace q380 := eq_true q380) | (go_at_call 90; (with_reducible refine (words_kind.calls ((rd_T67 l0 (ji12)).f0) t381 _ A15.out).mono ?_); rintro e w24 ⟨rfl, hb⟩; have n0_ := Aside0.mk (below_step (by repeat (first | (with_reducible first | exact HB.out | apply below_alloc | apply pw_below_drewN | apply below_drew1) | exact HB.out)) hb); clear HB; have HB := n0_; clear n0_; (try clear hb); (try clear hb2); (try clear hk); (try clear hi))); go_ret; exact ⟨by first | rfl | (simp [errW_none, errW_some] <;> rfl) | (simp only [← hji12]; first | rfl | (simp [errW_none, errW_some] <;> rfl)) | (simp [*, errW_none, errW_some] <;> rfl), by repeat (first | (with_reducible first | exact HB.out | apply below_alloc | apply pw_below_drewN | apply below_drew1) | exact HB.out)⟩
        ·rw [if_neg c14] at H; exact absurd H (by simp)
       ·rw [if_neg c13] at H; exact absurd H (by simp)
      ·rw [if_neg c11] at H; have c11b0 : decide ((wrap64 (a1 + 1)) < (l0.length : Int)) = false := decide_eq_false c11; clear c11; obtain rfl := Option.some.inj H; have p376 : 0 ≤ (a1 : Int) := of_decide_eq_true (by first | (with_reducible assumption) | assumption); have q376 : a1 < (l0.length : Int) := of_decide_eq_true (by first | (with_reducible assumption) | assumption); obtain ⟨ad376, e376, hx376_0, hx376_1, hx376_2⟩ := at_T67 HR0.out a1 p376 q376; cases e376; replace p376 := eq_true p376; replace q376 := eq_true q376; go_enter Tryd.func69, Tryd.ntmps69; go_wp2_with (first | ((with_reducible refine gate_callee (f := 90) rfl ?_); refine goesL_ (some 11) rfl rfl Tryd.func90 (by kernel_rfl) rfl #[.string ((rd_T67 l0 a1).f0)] rfl (by (try simp only [List.map_toArray, List.map_cons, List.map_nil]); first | done | rfl | (simp only [List.length_drop, List.length_take]; rfl)) ?_; (with_reducible refine (words_kind.calls ((rd_T67 l0 a1).f0) t377 _ A5.out).mono ?_); rintro e w25 ⟨rfl, hb⟩; refine ⟨_, rfl, ?_⟩; have n0_ := Aside0.mk (below_step (by repeat (first | (with_reducible first | exact HB.out | apply below_alloc | apply pw_below_drewN | apply below_drew1) | exact HB.out)) hb); clear HB; have HB := n0_; clear n0_; (try clear hb); (try clear hb2); (try clear hk); (try clear hi); have p378 : 0 ≤ (a1 : Int) := of_decide_eq_true (by first | (with_reducible assumption) | assumption); have q378 : a1 < (l0.length : Int) := of_decide_eq_true (by first | (with_reducible assumption) | assumption); obtain ⟨ad378, e378, hx378_0, hx378_1, hx378_2⟩ := at_T67 HR0.out a1 p378 q378; obtain rfl : ad376 = ad378 := (by injection e378); replace hx378_0 := (HB.out.cell (World.block_lt_of_cell? w _ hx378_0)).trans hx378_0; replace hx378_1 := (HB.out.cell (World.block_lt_of_cell? w _ hx378_1)).trans hx378_1; replace hx378_2 := (HB.out.cell (World.block_lt_of_cell? w _ hx378_2)).trans hx378_2; replace p378 := eq_true p378; replace q378 := eq_true q378) | ((with_reducible refine gate_callee (f := 91) rfl ?_); refine goesL_ (some 18) rfl rfl Tryd.func91 (by kernel_rfl) rfl #[.string ((rd_T67 l0 a1).f0)] rfl (by (try simp only [List.map_toArray, List.map_cons, List.map_nil]); first | done | rfl | (simp only [List.length_drop, List.length_take]; rfl)) ?_; (with_reducible refine (words_joint.calls k ((rd_T67 l0 a1).f0) t379 _ A7.out).mono ?_); rintro e w' ⟨rfl, ⟨nd, rfl⟩⟩; refine ⟨_, rfl, ?_⟩)); go_ret; exact ⟨by first | rfl | (simp [errW_none, errW_some] <;> rfl) | (simp [*, errW_none, errW_some] <;> rfl), by repeat (first | (with_reducible first | exact HB.out | apply below_alloc | apply pw_below_drewN | apply below_drew1) | exact HB.out)⟩
     ·rw [if_neg c10] at H; have c10b0 : decide (0 < a1) = false := decide_eq_false c10; clear c10; obtain rfl := Option.some.inj H; have p376 : 0 ≤ (a1 : Int) := of_decide_eq_true (by first | (with_reducible assumption) | assumption); have q376 : a1 < (l0.length : Int) := of_decide_eq_true (by first | (with_reducible assumption) | assumption); obtain ⟨ad376, e376, hx376_0, hx376_1, hx376_2⟩ := at_T67 HR0.out a1 p376 q376; cases e376; replace p376 := eq_true p376; replace q376 := eq_true q376; go_enter Tryd.func69, Tryd.ntmps69; go_wp2_with (first | ((with_reducible refine gate_callee (f := 90) rfl ?_); refine goesL_ (some 11) rfl rfl Tryd.func90 (by kernel_rfl) rfl #[.string ((rd_T67 l0 a1).f0)] rfl (by (try simp only [List.map_toArray, List.map_cons, List.map_nil]); first | done | rfl | (simp only [List.length_drop, List.length_take]; rfl)) ?_; (with_reducible refine (words_kind.calls ((rd_T67 l0 a1).f0) t377 _ A5.out).mono ?_); rintro e w26 ⟨rfl, hb⟩; refine ⟨_, rfl, ?_⟩; have n0_ := Aside0.mk (below_step (by repeat (first | (with_reducible first | exact HB.out | apply below_alloc | apply pw_below_drewN | apply below_drew1) | exact HB.out)) hb); clear HB; have HB := n0_; clear n0_; (try clear hb); (try clear hb2); (try clear hk); (try clear hi); have p378 : 0 ≤ (a1 : Int) := of_decide_eq_true (by first | (with_reducible assumption) | assumption); have q378 : a1 < (l0.length : Int) := of_decide_eq_true (by first | (with_reducible assumption) | assumption); obtain ⟨ad378, e378, hx378_0, hx378_1, hx378_2⟩ := at_T67 HR0.out a1 p378 q378; obtain rfl : ad376 = ad378 := (by injection e378); replace hx378_0 := (HB.out.cell (World.block_lt_of_cell? w _ hx378_0)).trans hx378_0; replace hx378_1 := (HB.out.cell (World.block_lt_of_cell? w _ hx378_1)).trans hx378_1; replace hx378_2 := (HB.out.cell (World.block_lt_of_cell? w _ hx378_2)).trans hx378_2; replace p378 := eq_true p378; replace q378 := eq_true q378) | ((with_reducible refine gate_callee (f := 91) rfl ?_); refine goesL_ (some 18) rfl rfl Tryd.func91 (by kernel_rfl) rfl #[.string ((rd_T67 l0 a1).f0)] rfl (by (try simp only [List.map_toArray, List.map_cons, List.map_nil]); first | done | rfl | (simp only [List.length_drop, List.length_take]; rfl)) ?_; (with_reducible refine (words_joint.calls k ((rd_T67 l0 a1).f0) t379 _ A7.out).mono ?_); rintro e w' ⟨rfl, ⟨nd, rfl⟩⟩; refine ⟨_, rfl, ?_⟩)); go_ret; exact ⟨by first | rfl | (simp [errW_none, errW_some] <;> rfl) | (simp [*, errW_none, errW_some] <;> rfl), by repeat (first | (with_reducible first | exact HB.out | apply below_alloc | apply pw_below_drewN | apply below_drew1) | exact HB.out)⟩
   ·rw [if_neg c6] at H; have c6b0 : (t377 == 0) = false := beq_eq_false_iff_ne.mpr c6; have c6b1 : (t377 != 0) = true := bne_iff_ne.mpr c6; obtain rfl := Option.some.inj H; have p376 : 0 ≤ (a1 : Int) := of_decide_eq_true (by first | (with_reducible assumption) | assumption); have q376 : a1 < (l0.length : Int) := of_decide_eq_true (by first | (with_reducible assumption) | assumption); obtain ⟨ad376, e376, hx376_0, hx376_1, hx376_2⟩ := at_T67 HR0.out a1 p376 q376; cases e376; replace p376 := eq_true p376; replace q376 := eq_true q376; go_enter Tryd.func69, Tryd.ntmps69; go_wp2_with (first | ((with_reducible refine gate_callee (f := 90) rfl ?_); refine goesL_ (some 11) rfl rfl Tryd.func90 (by kernel_rfl) rfl #[.string ((rd_T67 l0 a1).f0)] rfl (by (try simp only [List.map_toArray, List.map_cons, List.map_nil]); first | done | rfl | (simp only [List.length_drop, List.length_take]; rfl)) ?_; (with_reducible refine (words_kind.calls ((rd_T67 l0 a1).f0) t377 _ A5.out).mono ?_); rintro e w27 ⟨rfl, hb⟩; refine ⟨_, rfl, ?_⟩; have n0_ := Aside0.mk (below_step (by repeat (first | (with_reducible first | exact HB.out | apply below_alloc | apply pw_below_drewN | apply below_drew1) | exact HB.out)) hb); clear HB; have HB := n0_; clear n0_; (try clear hb); (try clear hb2); (try clear hk); (try clear hi))); go_ret; exact ⟨by first | rfl | (simp [errW_none, errW_some] <;> rfl) | (simp [*, errW_none, errW_some] <;> rfl), by repeat (first | (with_reducible first | exact HB.out | apply below_alloc | apply pw_below_drewN | apply below_drew1) | exact HB.out)⟩
  ·rw [if_neg c4] at H; exact absurd H (by simp)
 ·rw [if_neg c3] at H; exact absurd H (by simp)
end Go.Proofs.YthffpkdadffinaaDoor.X
namespace Go.Proofs.YthffpkdadffinaaDoor.Wd
set_option linter.unusedVariables false
set_option linter.unusedSimpArgs false
open Go.Proofs.YthffpkdadffinaaDoor.Ux (Bytes full)
open Go.Proofs.YthffpkdadffinaaDoor.Vb (cat)
open Go.Proofs.YthffpkdadffinaaDoor.Vef (foldU)
open Go.Proofs.YthffpkdadffinaaDoor.Ot (rns)
open Go.Proofs.YthffpkdadffinaaDoor.En (enc)
open Go.RowKit YthffpkdadffinaaDoorW.PrintWords Ev0 X Oa Ob Vp0 Sga Sgb Sgp Sgq Sgu Sgv Sgw Wa Wb
theorem runesS (s : ByteArray) (hs : s.size ≤ 1000000000) : norm_Runes.f s = some (rns (bytesOf s)) := by
  unfold norm_Runes.f runesOf; rw [if_pos hs]
  rfl
theorem fl2_app (a b : List Int) : fl2 (a ++ b) = fl2 a ++ fl2 b := List.flatMap_append ..
theorem fl2_succ (L : List Int) (i : Nat) (h : i < L.length) : fl2 (L.take (i + 1)) = fl2 (L.take i) ++ foldU L[i] := by
  rw [List.take_succ_eq_append_getElem h, fl2_app]; simp [fl2]
theorem fl2_take (L : List Int) (i : Nat) : (fl2 (L.take i)).length ≤ (fl2 L).length := by
  (have : fl2 L = fl2 (L.take i) ++ fl2 (L.drop i) := by rw [← fl2_app, List.take_append_drop]); rw [this, List.length_append]; omega
theorem keyEv (b : List Int) (hB : Bytes b) (hl : b.length ≤ 1000000000) (h1 : (rns b).length ≤ 100000000) (h2 : (fl2 (nrm (rns b))).length ≤ 100000000) : Ev (fun k => words_Key.f k b) (keyS b) := by
  have h32 := r32 b hB; (have hS : norm_Runes.f (strOfNums b) = some (rns b) := by rw [runesS _ (by rw [str_size hB]; exact hl), Ot.bytes_str b hB]); unfold words_Key.f; rw [hS]; simp only [Option.bind_some]; refine Ev.bind (normEv (rns b) h32 h1) ?_; have hn3 := nrm_len3 (rns b) h32; have hL32 := nrm_32 (rns b) h32; obtain ⟨L, hL⟩ : ∃ L, L = nrm (rns b) := ⟨_, rfl⟩; (have hK : keyS b = strOfNums (enc (nrm (fl2 L))) := by rw [hL]; rfl); rw [hK]; rw [← hL] at h2 hL32 hn3 ⊢; clear hK hL hS; have hF3 := nrm_len3 (fl2 L) (fl2_32 L hL32)
  have key : ∀ q i : Nat, i + q = L.length → Ev (fun k => words_Key.l0 k (fl2 (L.take i)) L (L.length : Int) (i : Int)) (strOfNums (enc (nrm (fl2 L)))) := by
    intro q
    induction q with
    | zero =>
      intro i hi; obtain rfl : i = L.length := hi; refine Ev.step (fun k => words_Key.l0.eq_2 ..) ?_; simp only [if_neg (Int.lt_irrefl _), List.take_length]; refine Ev.bind (normEv _ (fl2_32 L hL32) h2) ?_; exact Ev.bind (Ev.of (utf_Encode.mono _) (En.enc_pure _ (by omega))) (Ev.now _)
    | succ q ih =>
      intro i hi; (have hil : i < L.length := by omega); have ih := ih (i + 1) (by omega); have hsz := fl2_take L (i + 1); rw [fl2_succ L i hil] at ih hsz; rw [List.length_append] at hsz; refine Ev.step (fun k => words_Key.l0.eq_2 ..) ?_; simp only [if_pos (show (i : Int) < (L.length : Int) by omega), if_pos (show (0 : Int) ≤ (i : Int) by omega), rd_nat hil]; refine Ev.bind (Vp.foldEv L[i]) ?_; rw [w64 (i := i) (by omega)]; simp only [if_pos (show (fl2 (L.take i)).length + (foldU L[i]).length < 35184372088832 by omega)]; exact ih
  exact key L.length 0 (by omega)
theorem kind_some (s : ByteArray) (hs : s.size ≤ 1000000000) : words_kind.f s = some (kindF s) := by
  unfold words_kind.f; rw [runesS s hs]; unfold kindF
  cases rns (bytesOf s) with
  | nil => rfl
  | cons x t =>
    (have e1 : ¬ (((x :: t).length : Int) = 0) := by simp only [List.length_cons]; omega); (have e2 : (0 : Int) < ((x :: t).length : Int) := by simp only [List.length_cons]; omega); have e3 : rd (x :: t) 0 = x := rfl; simp only [Option.bind_some, if_neg e1, if_pos e2, e3, ucd_Category.f, kindU]; (repeat' split); all_goals rfl
theorem t39 : (ByteArray.toList ⟨#[39]⟩) = [39] := Sgr.ba_data _
theorem tA : (ByteArray.toList ⟨#[226, 128, 153]⟩) = [226, 128, 153] := Sgr.ba_data _
theorem tB : (ByteArray.toList ⟨#[194, 183]⟩) = [194, 183] := Sgr.ba_data _
theorem t46 : (ByteArray.toList ⟨#[46]⟩) = [46] := Sgr.ba_data _
theorem t44 : (ByteArray.toList ⟨#[44]⟩) = [44] := Sgr.ba_data _
theorem jointEv (s : ByteArray) : Ev (fun k => words_joint.f k s) (jointF s) := by
  have b1 := Sgr.ba_list s ⟨#[39]⟩; have b2 := Sgr.ba_list s ⟨#[226, 128, 153]⟩; have b3 := Sgr.ba_list s ⟨#[194, 183]⟩; have b4 := Sgr.ba_list s ⟨#[46]⟩; have b5 := Sgr.ba_list s ⟨#[44]⟩; rw [t39] at b1; rw [tA] at b2; rw [tB] at b3; rw [t46] at b4; rw [t44] at b5; unfold words_joint.f; by_cases h1 : s.toList = [39]
  · (have e : jointF s = 1 := by unfold jointF; rw [if_pos (.inl (b1.1 h1))]); simp only [if_pos h1, beq_iff_eq.2 h1, e]; refine Ev.step (fun k => words_joint.j0.eq_2 ..) ?_; simp only [if_true]; exact Ev.now _
  · simp only [if_neg h1]; by_cases h2 : s.toList = [226, 128, 153]
    · (have e : jointF s = 1 := by unfold jointF; rw [if_pos (.inr (.inl (b2.1 h2)))]); simp only [if_pos h2, beq_iff_eq.2 h2, e]; refine Ev.step (fun k => words_joint.j0.eq_2 ..) ?_; simp only [if_true]; exact Ev.now _
    · simp only [if_neg h2]; by_cases h3 : s.toList = [194, 183]
      · (have e : jointF s = 1 := by unfold jointF; rw [if_pos (.inr (.inr (b3.1 h3)))]); simp only [beq_iff_eq.2 h3, e]; refine Ev.step (fun k => words_joint.j0.eq_2 ..) ?_; simp only [if_true]; exact Ev.now _
      · have hn : ¬ (s = ⟨#[39]⟩ ∨ s = ⟨#[226, 128, 153]⟩ ∨ s = ⟨#[194, 183]⟩) := by
          rintro (h | h | h)
          · exact h1 (b1.2 h)
          · exact h2 (b2.2 h)
          · exact h3 (b3.2 h)
        simp only [beq_eq_false_iff_ne.2 h3]; refine Ev.step (fun k => words_joint.j0.eq_2 ..) ?_; simp only [Bool.false_eq_true, if_false]; unfold jointF; rw [if_neg hn]; by_cases h4 : s.toList = [46]
        · simp only [if_pos h4, if_pos (show s = ⟨#[46]⟩ ∨ s = ⟨#[44]⟩ from .inl (b4.1 h4))]; exact Ev.now _
        · simp only [if_neg h4]; by_cases h5 : s.toList = [44]
          · simp only [if_pos h5, if_pos (show s = ⟨#[46]⟩ ∨ s = ⟨#[44]⟩ from .inr (b5.1 h5))]; exact Ev.now _
          · simp only [if_neg h5, if_neg (show ¬ (s = ⟨#[46]⟩ ∨ s = ⟨#[44]⟩) from fun h => h.elim (fun h => h4 (b4.2 h)) (fun h => h5 (b5.2 h)))]; exact Ev.now _
theorem T_map (l : List SG) (i : Nat) (h : i < l.length) : T (l.map (·.f0)) i = l[i].f0 := by
  unfold T; simp [List.getD_eq_getElem?_getD, List.getElem?_eq_getElem h]
theorem withinEv (l : List SG) (hs : ∀ s ∈ l, s.f0.size ≤ 1000000000) (hl : l.length ≤ 100000000) (i : Nat) (hi : i < l.length) : Ev (fun k => words_within.f k l (i : Int)) (inW (l.map (·.f0)) i) := by
  (have ki := fun j (h : j < l.length) => kind_some l[j].f0 (hs _ (List.getElem_mem h))); unfold words_within.f inW; simp only [if_pos (show (0 : Int) ≤ (i : Int) by omega), if_pos (show (i : Int) < (l.length : Int) by omega), rdG hi, ki i hi, Option.bind_some, T_map l i hi]; by_cases h0 : kindF l[i].f0 = 0
  · simp only [if_pos h0, h0]; refine Ev.bind (jointEv l[i].f0) ?_; obtain ⟨j, hj⟩ : ∃ j, j = jointF l[i].f0 := ⟨_, rfl⟩; rw [← hj]; by_cases hj0 : j = 0
    · simp only [if_pos hj0, hj0]; exact Ev.now _
    · simp only [if_neg hj0, w64 (i := i) (by omega)]; by_cases hip : 0 < i
      · (have e1 : (i : Int) > 0 := by omega); simp only [if_pos e1, List.length_map, decide_eq_true hip]; by_cases hin : i + 1 < l.length
        · have e2 : wrap64 ((i : Int) - 1) = ((i - 1 : Nat) : Int) := w64d hip (by omega); simp only [if_pos (show ((i + 1 : Nat) : Int) < (l.length : Int) by omega), e2, if_pos (show (0 : Int) ≤ ((i - 1 : Nat) : Int) by omega), if_pos (show ((i - 1 : Nat) : Int) < (l.length : Int) by omega), rdG (show i - 1 < l.length by omega), ki (i - 1) (by omega), Option.bind_some, T_map l (i - 1) (by omega), T_map l (i + 1) hin, decide_eq_true hin]; by_cases hk : kindF l[i - 1].f0 = j
          · simp only [if_pos hk, if_pos (show (0 : Int) ≤ ((i + 1 : Nat) : Int) by omega), rdG hin, ki (i + 1) hin, Option.bind_some, decide_eq_true hk]; have e3 : (kindF l[i + 1].f0 == j) = decide (kindF l[i + 1].f0 = j) := rfl; rw [e3]; simp [hj0]; exact Ev.now _
          · simp only [if_neg hk, decide_eq_false hk]; simp; exact Ev.now _
        · simp only [if_neg (show ¬ ((i + 1 : Nat) : Int) < (l.length : Int) by omega), decide_eq_false hin]; simp; exact Ev.now _
      · (have e1 : ¬ (i : Int) > 0 := by omega); simp only [if_neg e1, decide_eq_false hip]; simp; exact Ev.now _
  · simp only [if_neg h0]; simp [h0]; exact Ev.now _
abbrev SW := S60
theorem rdW {l : List SW} {i : Nat} (h : i < l.length) : rd_T60 l (i : Int) = l[i] := by unfold rd_T60; simp [List.getD_eq_getElem?_getD, List.getElem?_eq_getElem h]
end Go.Proofs.YthffpkdadffinaaDoor.Wd
namespace Go.Proofs.YthffpkdadffinaaDoor.Wg
set_option linter.unusedVariables false
set_option linter.unusedSimpArgs false
open Go.Proofs.YthffpkdadffinaaDoor.Ux (Bytes full)
open Go.Proofs.YthffpkdadffinaaDoor.Ot (rns)
open Go.Proofs.YthffpkdadffinaaDoor.En (enc)
open Go.RowKit YthffpkdadffinaaDoorW.PrintWords Ev0 X Oa Vp0 Sga Sgb Sgp Sgq Sgv Sgw Wa Wb Wd
def gAt (l : List SG) (i : Nat) : SG := l.getD i z67
theorem gAt_eq {l : List SG} {i : Nat} (h : i < l.length) : gAt l i = l[i] := by unfold gAt; simp [List.getD_eq_getElem?_getD, List.getElem?_eq_getElem h]
def wordOf (l : List SG) (p : Nat × Nat) : SW := ⟨keyR (l.map (·.f0)) p.1 p.2, ⟨p.1, p.2, (gAt l p.1).f1, (gAt l (p.2 - 1)).f2⟩⟩
def wordsF (l : List SG) : List SW := (runsT (l.map (·.f0))).map (wordOf l)
def sizes : List ByteArray → Nat
  | [] => 0
  | x :: t => x.size + sizes t
theorem sizes_app : ∀ a b : List ByteArray, sizes (a ++ b) = sizes a + sizes b
  | [], b => by simp [sizes]
  | x :: a, b => by rw [List.cons_append, sizes, sizes, sizes_app a b, Nat.add_assoc]
theorem sizes_mem : ∀ (l : List ByteArray) (x : ByteArray), x ∈ l → x.size ≤ sizes l
  | y :: t, x, h => by
    rw [sizes]; rcases List.mem_cons.1 h with rfl | h
    · omega
    · have := sizes_mem t x h; omega
theorem catB_size : ∀ l : List ByteArray, (catB l).size = sizes l
  | [] => rfl
  | x :: t => by
    have := catB_size t; rw [sizes, catB, ByteArray.size_append, this]
theorem catB_snoc : ∀ (l : List ByteArray) (x : ByteArray), catB (l ++ [x]) = catB l ++ x
  | [], x => by
    refine ba_ext ?_; (show (x ++ (⟨#[]⟩ : ByteArray)).data.toList = ((⟨#[]⟩ : ByteArray) ++ x).data.toList); rw [ba_app, ba_app]; simp
  | y :: l, x => by
    rw [List.cons_append, catB, catB, catB_snoc l x]; refine ba_ext ?_; rw [ba_app, ba_app, ba_app, ba_app, List.append_assoc]
theorem catR_self (l : List ByteArray) (f : Nat) : catR l f f = ⟨#[]⟩ := by unfold catR; rw [List.drop_eq_nil_of_le (by rw [List.length_take]; omega)]; rfl
theorem catR_succ (l : List ByteArray) (f t : Nat) (h : f ≤ t) (ht : t < l.length) : catR l f (t + 1) = catR l f t ++ l[t] := by
  unfold catR; rw [List.take_succ_eq_append_getElem ht, List.drop_append_of_le_length (by rw [List.length_take]; omega), catB_snoc]
theorem catR_size (l : List ByteArray) (f t : Nat) : (catR l f t).size ≤ sizes l := by
  unfold catR; rw [catB_size]; (have h1 : sizes l = sizes (l.take t) + sizes (l.drop t) := by rw [← sizes_app, List.take_append_drop]); (have h2 : sizes (l.take t) = sizes ((l.take t).take f) + sizes ((l.take t).drop f) := by rw [← sizes_app, List.take_append_drop]); omega
theorem keyS_ev (b : List Int) (hB : Bytes b) (hl : b.length ≤ 16000000) : Ev (fun k => words_Key.f k b) (keyS b) := by
  have h1 := Sgu.rns_len b; have h2 := nrm_len3 (rns b) (r32 b hB); have h3 := fl2_len (nrm (rns b)); exact keyEv b hB (by omega) (by omega) (by omega)
theorem k46 : kindF ⟨#[46]⟩ = 0 := by decide +kernel
def inR (K : Int) (mid : Bool) (P N : Int) : Bool := if K > 3 ∧ mid = true then decide (P = K - 3) && decide (N = K - 3) else decide (1 ≤ K) && decide (K ≤ 3)
end Go.Proofs.YthffpkdadffinaaDoor.Wg
namespace Go.Proofs.YthffpkdadffinaaDoor.Vcc
set_option linter.unusedVariables false
set_option linter.unusedSimpArgs false
open Go.RowKit YthffpkdadffinaaDoorW.PrintWords Hp X Vin
def g0 : List (Int × Int) := [(32, 32), (160, 160), (8192, 8202), (8232, 8233), (12288, 12288)]
def g1 : List (Int × Int) := [(48, 57), (178, 179), (185, 185), (188, 190), (1632, 1641), (65296, 65305)]
def g2 : List (Int × Int) := [(768, 879), (1155, 1161), (8400, 8412), (12441, 12442)]
def g3 : List (Int × Int) := [(33, 35), (37, 42), (44, 47), (58, 59), (63, 64), (91, 93), (95, 95), (123, 123), (125, 125), (161, 161), (167, 167), (171, 171), (182, 183), (187, 187), (191, 191), (903, 903), (8208, 8231), (8240, 8259), (12289, 12291)]
def g4 : List (Int × Int) := [(36, 36), (43, 43), (60, 62), (94, 94), (96, 96), (124, 124), (126, 126), (162, 166), (168, 169), (172, 172), (174, 177), (180, 180), (184, 184), (215, 215), (247, 247), (8352, 8384), (8592, 8959), (65533, 65533), (128512, 128591)]
def g5 : List (Int × Int) := [(65, 90), (97, 122), (170, 170), (181, 181), (186, 186), (192, 214), (216, 246), (248, 687), (902, 902), (904, 1023), (1024, 1153), (1162, 1327), (4352, 4607), (7680, 8124), (8486, 8486), (8490, 8491), (12353, 12438), (12449, 12538), (19968, 40959), (44032, 55203)]
def refT : List (List (Int × Int) × Int) := [(g0, 6), (g1, 3), (g2, 2), (g3, 4), (g4, 5), (g5, 1)]
def refC (r : Int) : Int := refG r 7 refT
set_option maxRecDepth 100000 in
set_option maxHeartbeats 16000000 in
theorem refC_walk (w : World) (r : Int) : Calls Tryd.prog 65 #[.int .i32 r] w fun e w' => e = .returned (.int .i64 (refC r)) ∧ Drawn0 w w' := by
  have HB := Aside0.mk (Drawn0.refl w); go_enter Tryd.func65, Tryd.ntmps65; go_upto_if 3 with (go_at_call 88; go_must (refine (InQ r _ _ HB.out).mono ?_; clear HB; rintro E w1 ⟨rfl, p1⟩; have HB := Aside0.mk p1; clear p1)); go_cut [3] (fun vq wq => vq = .bool (anyIn r g0) ∧ Aside0 (Drawn0 w wq))
  case first =>
    as_aux_lemma =>
     go_wp2_with (go_at_call 88; go_must (refine (InQ r _ _ HB.out).mono ?_; clear HB; rintro E w1 ⟨rfl, p1⟩; have HB := Aside0.mk p1; clear p1)); all_goals (go_meet; case rel => exact ⟨by simp [anyIn, g0, *], HB⟩)
  case rest =>
    as_aux_lemma =>
     obtain ⟨rfl, HB⟩ := hcut
     cases c0 : anyIn r g0 with
     | true =>
       have HV := Aside0.mk (show refC r = 6 by simp only [refC, refT, refG, c0, Bool.false_eq_true, if_false, if_true]); go_wp2; go_ret; exact ⟨by rw [HV.out]; rfl, HB.out⟩
     | false =>
       go_upto_if 16 with (go_at_call 88; go_must (refine (InQ r _ _ HB.out).mono ?_; clear HB; rintro E w1 ⟨rfl, p1⟩; have HB := Aside0.mk p1; clear p1)); go_cut [16] (fun vq wq => vq = .bool (anyIn r g1) ∧ Aside0 (Drawn0 w wq))
       case first =>
         as_aux_lemma =>
          go_wp2_with (go_at_call 88; go_must (refine (InQ r _ _ HB.out).mono ?_; clear HB; rintro E w1 ⟨rfl, p1⟩; have HB := Aside0.mk p1; clear p1)); all_goals (go_meet; case rel => exact ⟨by simp [anyIn, g1, *], HB⟩)
       case rest =>
         as_aux_lemma =>
          obtain ⟨rfl, HB⟩ := hcut
          cases c1 : anyIn r g1 with
          | true =>
            have HV := Aside0.mk (show refC r = 3 by simp only [refC, refT, refG, c0, c1, Bool.false_eq_true, if_false, if_true]); go_wp2; go_ret; exact ⟨by rw [HV.out]; rfl, HB.out⟩
          | false =>
            go_upto_if 31 with (go_at_call 88; go_must (refine (InQ r _ _ HB.out).mono ?_; clear HB; rintro E w1 ⟨rfl, p1⟩; have HB := Aside0.mk p1; clear p1)); go_cut [31] (fun vq wq => vq = .bool (anyIn r g2) ∧ Aside0 (Drawn0 w wq))
            case first =>
              as_aux_lemma =>
               go_wp2_with (go_at_call 88; go_must (refine (InQ r _ _ HB.out).mono ?_; clear HB; rintro E w1 ⟨rfl, p1⟩; have HB := Aside0.mk p1; clear p1)); all_goals (go_meet; case rel => exact ⟨by simp [anyIn, g2, *], HB⟩)
            case rest =>
              as_aux_lemma =>
               obtain ⟨rfl, HB⟩ := hcut
               cases c2 : anyIn r g2 with
               | true =>
                 have HV := Aside0.mk (show refC r = 2 by simp only [refC, refT, refG, c0, c1, c2, Bool.false_eq_true, if_false, if_true]); go_wp2; go_ret; exact ⟨by rw [HV.out]; rfl, HB.out⟩
               | false =>
                 go_upto_if 40 with (go_at_call 88; go_must (refine (InQ r _ _ HB.out).mono ?_; clear HB; rintro E w1 ⟨rfl, p1⟩; have HB := Aside0.mk p1; clear p1)); go_cut [40] (fun vq wq => vq = .bool (anyIn r g3) ∧ Aside0 (Drawn0 w wq))
                 case first =>
                   as_aux_lemma =>
                    go_wp2_with (go_at_call 88; go_must (refine (InQ r _ _ HB.out).mono ?_; clear HB; rintro E w1 ⟨rfl, p1⟩; have HB := Aside0.mk p1; clear p1)); all_goals (go_meet; case rel => exact ⟨by simp [anyIn, g3, *], HB⟩)
                 case rest =>
                   as_aux_lemma =>
                    obtain ⟨rfl, HB⟩ := hcut
                    cases c3 : anyIn r g3 with
                    | true =>
                      have HV := Aside0.mk (show refC r = 4 by simp only [refC, refT, refG, c0, c1, c2, c3, Bool.false_eq_true, if_false, if_true]); go_wp2; go_ret; exact ⟨by rw [HV.out]; rfl, HB.out⟩
                    | false =>
                      go_upto_if 87 with (go_at_call 88; go_must (refine (InQ r _ _ HB.out).mono ?_; clear HB; rintro E w1 ⟨rfl, p1⟩; have HB := Aside0.mk p1; clear p1)); go_cut [87] (fun vq wq => vq = .bool (anyIn r g4) ∧ Aside0 (Drawn0 w wq))
                      case first =>
                        as_aux_lemma =>
                         go_wp2_with (go_at_call 88; go_must (refine (InQ r _ _ HB.out).mono ?_; clear HB; rintro E w1 ⟨rfl, p1⟩; have HB := Aside0.mk p1; clear p1)); all_goals (go_meet; case rel => exact ⟨by simp [anyIn, g4, *], HB⟩)
                      case rest =>
                        as_aux_lemma =>
                         obtain ⟨rfl, HB⟩ := hcut
                         cases c4 : anyIn r g4 with
                         | true =>
                           have HV := Aside0.mk (show refC r = 5 by simp only [refC, refT, refG, c0, c1, c2, c3, c4, Bool.false_eq_true, if_false, if_true]); go_wp2; go_ret; exact ⟨by rw [HV.out]; rfl, HB.out⟩
                         | false =>
                           go_upto_if 134 with (go_at_call 88; go_must (refine (InQ r _ _ HB.out).mono ?_; clear HB; rintro E w1 ⟨rfl, p1⟩; have HB := Aside0.mk p1; clear p1)); go_cut [134] (fun vq wq => vq = .bool (anyIn r g5) ∧ Aside0 (Drawn0 w wq))
                           case first =>
                             as_aux_lemma =>
                              go_wp2_with (go_at_call 88; go_must (refine (InQ r _ _ HB.out).mono ?_; clear HB; rintro E w1 ⟨rfl, p1⟩; have HB := Aside0.mk p1; clear p1)); all_goals (go_meet; case rel => exact ⟨by simp [anyIn, g5, *], HB⟩)
                           case rest =>
                             as_aux_lemma =>
                              obtain ⟨rfl, HB⟩ := hcut
                              cases c5 : anyIn r g5 with
                              | true =>
                                have HV := Aside0.mk (show refC r = 1 by simp only [refC, refT, refG, c0, c1, c2, c3, c4, c5, Bool.false_eq_true, if_false, if_true]); go_wp2; go_ret; exact ⟨by rw [HV.out]; rfl, HB.out⟩
                              | false =>
                                have HV := Aside0.mk (show refC r = 7 by simp only [refC, refT, refG, c0, c1, c2, c3, c4, c5, Bool.false_eq_true, if_false]); go_wp2; go_ret; exact ⟨by rw [HV.out]; rfl, HB.out⟩
end Go.Proofs.YthffpkdadffinaaDoor.Vcc
namespace Go.Proofs.YthffpkdadffinaaDoor.Vcy
set_option linter.unusedVariables false
set_option linter.unusedSimpArgs false
open Go.RowKit YthffpkdadffinaaDoorW.PrintWords Vb Vin Vcc
def catB : List Int := refT.flatMap fun q => q.1.flatMap fun p => [p.1, p.2 + 1]
end Go.Proofs.YthffpkdadffinaaDoor.Vcy
namespace Go.Proofs.YthffpkdadffinaaDoor.X
set_option linter.unusedVariables false
set_option linter.unusedSimpArgs false
open Go.RowKit YthffpkdadffinaaDoorW.PrintWords
end Go.Proofs.YthffpkdadffinaaDoor.X
namespace Go.Proofs.YthffpkdadffinaaDoor.Wj
set_option linter.unusedVariables false
set_option linter.unusedSimpArgs false
open Go.Proofs.YthffpkdadffinaaDoor.Ux (Bytes full)
open Go.Proofs.YthffpkdadffinaaDoor.Ot (rns)
open Go.RowKit YthffpkdadffinaaDoorW.PrintWords Hp Fm X Va Oa Vp0 Sga Sgb Sgd Sgp Sgv Wa Wb Wd Wg
abbrev kW := k60
abbrev TW : Nat := 60
theorem kW_KM {w w' : World} {base : Nat} {ok : Nat → Prop} (x : SW) (cs : List Value) (h : kW.K w x cs) : kW.M w' base ok x cs := by
  obtain rfl := k60_open h; exact k60_mkM _ _ _ _
def PJ (l : List SG) (i : Nat) (st : Option Nat) (out : List SW) : Prop := out ++ (runs (inW (l.map (·.f0))) (l.length - i) i st).map (wordOf l) = wordsF l
theorem PJ_start (l : List SG) : PJ l 0 none [] := by unfold PJ wordsF runsT; simp
theorem PJ_skip {l : List SG} {i : Nat} {out : List SW} (h : PJ l i none out) (hi : i < l.length) (hf : inW (l.map (·.f0)) i = false) : PJ l (i + 1) none out := by
  unfold PJ at h ⊢; rw [show l.length - i = (l.length - (i + 1)) + 1 by omega, runs, hf, if_neg (by decide)] at h; exact h
theorem PJ_open {l : List SG} {i : Nat} {out : List SW} (h : PJ l i none out) (hi : i < l.length) (hf : inW (l.map (·.f0)) i = true) : PJ l i (some i) out := by
  unfold PJ at h ⊢; rw [show l.length - i = (l.length - (i + 1)) + 1 by omega] at h ⊢; rw [runs, if_pos hf] at h; (show out ++ (if inW (l.map (·.f0)) i = true then runs (inW (l.map (·.f0))) (l.length - (i + 1)) (i + 1) (some i) else (i, i) :: runs (inW (l.map (·.f0))) (l.length - (i + 1)) (i + 1) none).map (wordOf l) = _); rw [if_pos hf]; exact h
theorem PJ_step {l : List SG} {i f : Nat} {out : List SW} (h : PJ l i (some f) out) (hi : i < l.length) (hf : inW (l.map (·.f0)) i = true) : PJ l (i + 1) (some f) out := by
  unfold PJ at h ⊢; rw [show l.length - i = (l.length - (i + 1)) + 1 by omega, runs, if_pos hf] at h; exact h
theorem PJ_close {l : List SG} {i f : Nat} {out : List SW} (h : PJ l i (some f) out) (hi : i ≤ l.length) (hf : i < l.length → inW (l.map (·.f0)) i = false) : PJ l (i + 1) none (out ++ [wordOf l (f, i)]) := by
  unfold PJ at h ⊢; by_cases hlt : i < l.length
  · rw [show l.length - i = (l.length - (i + 1)) + 1 by omega, runs, hf hlt, if_neg (by decide), List.map_cons] at h; rw [List.append_assoc]; exact h
  · rw [show l.length - i = 0 by omega, runs] at h; rw [show l.length - (i + 1) = 0 by omega, runs, List.map_nil, List.append_nil]; exact h
theorem PJ_end {l : List SG} {i : Nat} {out : List SW} (h : PJ l i none out) (hi : l.length ≤ i) : out = wordsF l := by
  unfold PJ at h; rw [show l.length - i = 0 by omega, runs, List.map_nil, List.append_nil] at h; exact h
theorem PJ_len {l : List SG} {i : Nat} {st : Option Nat} {out : List SW} (h : PJ l i st out) : out.length ≤ l.length := by
  have h2 := congrArg List.length h; rw [List.length_append] at h2; have h3 := (runs_len (inW (l.map (·.f0))) (l.map (·.f0)).length 0).1; (have h4 : (wordsF l).length ≤ l.length := by unfold wordsF runsT; rw [List.length_map]; rw [List.length_map] at h3 ⊢; exact h3); omega
theorem post_of2 {w w' : World} {L : List Th} (h : Sep w L w') (i : Nat) {v : Value} {l : List SW} (hi : L[i]? = some (rowT kW TW w.heap.size v l)) : kW.R TW w' w.heap.size (fun _ => True) v l := by
  obtain ⟨ok, h1⟩ := h.one i _ hi; exact Kd.R_mono h1 (fun _ _ => trivial)
theorem KeyR (w : World) (hG : G w) (t : ByteArray) (hs : t.size ≤ 16000000) (A : Option Addr) (n c : Nat) (hC : KB.C w A n (bytesOf t)) (hn : n = (bytesOf t).length) (hc : n ≤ c) :
    Calls Tryd.prog 32 #[.slice A n c] w fun e w' => e = .returned (.string (keyS (bytesOf t))) ∧ Below w.heap.size w w' := by
  subst hn; obtain ⟨k, hk⟩ := Ev.rounds (keyS_ev (bytesOf t) (bytesOf_Bytes t) (by rw [bytesOf_length]; exact hs)); exact words_Key.calls k A c (bytesOf t) _ w hC hc hk hG
set_option maxRecDepth 100000 in
set_option maxHeartbeats 8000000 in
theorem JoinP (w : World) (hG : G w) (A : Option Addr) (n c : Nat) (l : List SG) (hC : kG.C w A n l) (hn : n = l.length) (hc : n ≤ c) (hs : sizes (l.map (·.f0)) ≤ 13000000) (hl : n ≤ 13000000) :
    Calls Tryd.prog 30 #[.slice A n c] w fun e w' => ∃ v, e = .returned v ∧ kW.R TW w' w.heap.size (fun _ => True) v (wordsF l) ∧ Below w.heap.size w w' := by
  have HW := Aside0.mk (show ∀ (W : World), Below w.heap.size w W → ∀ j, j < n → Calls Tryd.prog 69 #[.slice A n c, .int .i64 (j : Int)] W (fun e w' => e = .returned (.bool (inW (l.map (·.f0)) j)) ∧ Below W.heap.size W w') from fun W hW j hj => by
    subst hn; obtain ⟨k, hk⟩ := Ev.rounds (withinEv l (fun s hs2 => by have := sizes_mem _ _ (List.mem_map_of_mem (f := (·.f0)) hs2); omega) (by omega) j hj)
    exact words_within.calls k A c l j _ W (Kd.C_below hC hW) hc hk)
  have HN := Aside0.mk hn; have HC := Aside0.mk hC; have HG := Aside0.mk hG; have HSZ := Aside0.mk hs; clear hC hn hG; go_enter Tryd.func30, Tryd.ntmps30; go_wp2; go_loopw [3, 4] (fun lv iv wr => ∃ (i : Nat) (out : List SW), iv = .int .i64 i ∧ Aside0 (i ≤ n + 1 ∧ PJ l i none out) ∧ Aside0 (Sep w [rowT kW TW w.heap.size lv out] wr)) (fun _ iv _ => n + 1 - (intOf iv).toNat)
  case atStart => exact ⟨0, [], rfl, ⟨by omega, PJ_start l⟩, ⟨(Sep.nil w).empty kW TW w.heap.size⟩⟩
  case round =>
    obtain ⟨i, out, rfl, HP, HS⟩ := hrel; by_cases hlt : i < n
    · have hd : decide ((i : Int) < (n : Int)) = true := decide_eq_true (by omega); have hd' : decide (i < n) = true := decide_eq_true hlt
      cases hin : inW (l.map (·.f0)) i with
      | false =>
        have HI := Aside0.mk hin; clear hin; go_wp2_with (go_at_call 69; go_must (refine (HW.out wr HS.out.below i hlt).mono ?_; rw [HI.out]; rintro E w2 ⟨rfl, p1⟩; have HS2 := Aside0.mk (HS.out.later p1); clear p1)); go_roundw
        case rel => exact ⟨i + 1, out, by go_num, ⟨by omega, PJ_skip HP.out.2 (by rw [← HN.out]; exact hlt) HI.out⟩, HS2⟩
        case measure => simp [intOf]; omega
      | true =>
        have HI := Aside0.mk hin; clear hin; go_wp2_with (go_at_call 69; go_must (refine (HW.out wr HS.out.below i hlt).mono ?_; rw [HI.out]; rintro E w2 ⟨rfl, p1⟩; have HS1 := Aside0.mk (HS.out.later p1); clear p1)); go_loopw [4, 6] (fun iv tv wq => ∃ (i2 : Nat) (t : ByteArray), iv = .int .i64 i2 ∧ tv = .string t ∧ Aside0 (i ≤ i2 ∧ i2 ≤ n ∧ PJ l i2 (some i) out) ∧ Aside0 (t = catR (l.map (·.f0)) i i2) ∧ Aside0 (Sep w [rowT kW TW w.heap.size u3 out] wq)) (fun iv _ _ => n - (intOf iv).toNat)
        case atStart => exact ⟨i, ⟨#[]⟩, rfl, rfl, ⟨Nat.le_refl _, by omega, PJ_open HP.out.2 (by rw [← HN.out]; exact hlt) HI.out⟩, ⟨(catR_self _ _).symm⟩, HS1⟩
        case round =>
          obtain ⟨i2, t, rfl, rfl, HQ, HT, HS2⟩ := hrel; by_cases hlt2 : i2 < n
          · have hd2 : decide ((i2 : Int) < (n : Int)) = true := decide_eq_true (by omega); have hd2' : decide (i2 < n) = true := decide_eq_true hlt2
            cases hin2 : inW (l.map (·.f0)) i2 with
            | true =>
              have HI2 := Aside0.mk hin2; clear hin2; obtain ⟨ad, rfl, z0, -, -⟩ := sg_at HC.out i2 hlt2 (by rw [← HN.out]; exact hlt2); have HCS := Aside0.mk (catR_succ (l.map (·.f0)) i i2 HQ.out.1 (by rw [List.length_map, ← HN.out]; exact hlt2)); simp only [List.getElem_map] at HCS; obtain ⟨x, hx⟩ : ∃ x, x = (l[i2]'(by rw [← HN.out]; exact hlt2)).f0 := ⟨_, rfl⟩; rw [← hx] at z0 HCS
              have hsz : t.size + x.size ≤ 9223372036854775807 := by
                have h1 := catR_size (l.map (·.f0)) i (i2 + 1); rw [HCS.out, ← HT.out, ByteArray.size_append] at h1; have := HSZ.out; omega
              have Z0 := Aside0.mk z0; clear z0 hx; go_upto_region 8 with (go_at_call 69; go_must (refine (HW.out wr HS2.out.below i2 hlt2).mono ?_; rw [HI2.out]; rintro E w3 ⟨rfl, p1⟩; have HS3 := Aside0.mk (HS2.out.later p1); clear p1)); have hcell := cell_later HS3.out.below Z0.out; go_wp2; go_roundw
              case rel => exact ⟨i2 + 1, t ++ x, by go_num, rfl, ⟨by have := HQ.out.1; omega, by omega, PJ_step HQ.out.2.2 (by rw [← HN.out]; exact hlt2) HI2.out⟩, ⟨by rw [HCS.out, HT.out]⟩, HS3⟩
              case measure => simp [intOf]; omega
            | false =>
              have HI2 := Aside0.mk hin2; clear hin2
              have hii : i < i2 := by
                have := HQ.out.1; rcases Nat.lt_or_ge i i2 with h | h
                · exact h
                · exact absurd (show i2 = i by omega) (fun e => by have h1 := HI.out; have h2 := HI2.out; rw [e, h1] at h2; cases h2)
              go_upto_region 10 with (go_at_call 69; go_must (refine (HW.out wr HS2.out.below i2 hlt2).mono ?_; rw [HI2.out]; rintro E w3 ⟨rfl, p1⟩; have HS3 := Aside0.mk (HS2.out.later p1); clear p1)); have HPC := Aside0.mk (PJ_close HQ.out.2.2 (by rw [← HN.out]; omega) (fun _ => HI2.out)); clear hd2 hd2' hlt2; have hle : i2 ≤ n := HQ.out.2.1; obtain ⟨j, rfl⟩ : ∃ j, i2 = j + 1 := ⟨i2 - 1, by omega⟩; obtain ⟨ad0, e0, -, Z1, -⟩ := sg_at HC.out i (by omega) (by rw [← HN.out]; omega); obtain ⟨ad1, e1, -, -, Z2⟩ := sg_at HC.out j (by omega) (by rw [← HN.out]; omega); obtain rfl : ad1 = ad0 := Option.some.inj (e1.symm.trans e0); subst e0; clear e1; (have hil : i < l.length := by rw [← HN.out]; omega); (have hjl : j < l.length := by rw [← HN.out]; omega); (have hg1 : (gAt l i).f1 = l[i].f1 := by rw [gAt_eq]); (have hg2 : (gAt l j).f2 = l[j].f2 := by rw [gAt_eq]); obtain ⟨a1, ha1⟩ : ∃ a1, a1 = l[i].f1 := ⟨_, rfl⟩; obtain ⟨a2, ha2⟩ : ∃ a2, a2 = l[j].f2 := ⟨_, rfl⟩; rw [← ha1] at Z1 hg1; rw [← ha2] at Z2 hg2; obtain ⟨ky, hky⟩ : ∃ ky, ky = keyS (bytesOf t) := ⟨_, rfl⟩
              have HX := Aside0.mk (show wordOf l (i, j + 1) = ⟨ky, ⟨i, ((j + 1 : Nat) : Int), a1, a2⟩⟩ by
                unfold wordOf keyR; simp only [Nat.add_sub_cancel, hg1, hg2]
                rw [← HT.out, hky])
              have hts : t.size ≤ 13000000 := by
                have h1 := catR_size (l.map (·.f0)) i (j + 1); rw [← HT.out] at h1; have := HSZ.out; omega
              have HKEY := Aside0.mk (fun (W : World) (h : Below w.heap.size w W) => KeyR W (HG.out.below h) t (by omega)); rw [← hky] at HKEY; (have hwj : wrap64 (((j + 1 : Nat) : Int) - 1) = (j : Int) := by unfold wrap64; omega); (have hwj3 : IntKind.i64.wrap (j : Int) = (j : Int) := by rw [IntKind.wrap_i64]; omega); have hjn : (n ≤ j) = False := eq_false (by omega); (have hwj2 : wrap64 ((j : Int) + 1 - 1) = (j : Int) := by unfold wrap64; omega); have ZA := Aside0.mk Z1; have ZB := Aside0.mk Z2; (have kb := fun W => print_bytes (P := Tryd.prog) 9 23 5 Tryd.underlying9 Tryd.underlying23 Tryd.underlying5 t W); have HB2 := Aside0.mk (fun W : World => bytes_below (Below.refl W.heap.size W) (Nat.le_refl _) 5 t); have HBR := Aside0.mk (fun W : World => bytes_reads W 5 t (by omega)); obtain ⟨x, hx⟩ : ∃ x : SW, x = ⟨ky, ⟨i, ((j + 1 : Nat) : Int), a1, a2⟩⟩ := ⟨_, rfl⟩; have HXX := Aside0.mk hx; clear hg1 hg2 ha1 ha2 hky Z1 Z2 hx; have SD := Aside0.mk (HS3.out.later ((Drawn0.refl w3).step 1).below); refine wp_region_held_drew (S := fun W => Below w.heap.size w W) (by kernel_rfl) SD.out.below (fun hS => ?_); refine wpAnyH_take (i := 0) (oi := { dst := some 36, op := _, type := _, pos := _, after := _, guard := _ }) (v := u3) rfl (by kernel_rfl) (by kernel_rfl) (by kernel_rfl) (fun _ _ _ h => h) (Or.inl ⟨by rfl, fun W hW => ?_⟩) hS ?_
              · (go_simp)
              (try simp only [Act.put, List.setIfInBounds_toArray, List.set_cons_zero, List.set_cons_succ]); refine wpAnyH_take (i := 1) (oi := { dst := some 37, op := _, type := _, pos := _, after := _, guard := _ }) (v := .string t) rfl (by kernel_rfl) (by kernel_rfl) (by kernel_rfl) (fun _ _ _ h => h) (Or.inl ⟨by rfl, fun W hW => ?_⟩) hS ?_
              · (go_simp)
              (try simp only [Act.put, List.setIfInBounds_toArray, List.set_cons_zero, List.set_cons_succ]); refine wpAnyH_take (i := 4) (oi := { dst := some 40, op := _, type := _, pos := _, after := _, guard := _ }) (v := .int .i64 (i : Int)) rfl (by kernel_rfl) (by kernel_rfl) (by kernel_rfl) (fun _ _ _ h => h) (Or.inl ⟨by rfl, fun W hW => ?_⟩) hS ?_
              · (go_simp)
              (try simp only [Act.put, List.setIfInBounds_toArray, List.set_cons_zero, List.set_cons_succ]); refine wpAnyH_take (i := 5) (oi := { dst := some 41, op := _, type := _, pos := _, after := _, guard := _ }) (v := .int .i64 ((j + 1 : Nat) : Int)) rfl (by kernel_rfl) (by kernel_rfl) (by kernel_rfl) (fun _ _ _ h => h) (Or.inl ⟨by rfl, fun W hW => ?_⟩) hS ?_
              · (go_simp)
              (try simp only [Act.put, List.setIfInBounds_toArray, List.set_cons_zero, List.set_cons_succ]); refine wpAnyH_take (i := 6) (oi := { dst := some 42, op := _, type := _, pos := _, after := _, guard := _ }) (v := .slice (some ad1) n c) rfl (by kernel_rfl) (by kernel_rfl) (by kernel_rfl) (fun _ _ _ h => h) (Or.inl ⟨by rfl, fun W hW => ?_⟩) hS ?_
              · (go_simp)
              (try simp only [Act.put, List.setIfInBounds_toArray, List.set_cons_zero, List.set_cons_succ]); refine wpAnyH_take (i := 7) (oi := { dst := some 43, op := _, type := _, pos := _, after := _, guard := _ }) (v := .int .i64 (i : Int)) rfl (by kernel_rfl) (by kernel_rfl) (by kernel_rfl) (fun _ _ _ h => h) (Or.inl ⟨by rfl, fun W hW => ?_⟩) hS ?_
              · (go_simp)
              (try simp only [Act.put, List.setIfInBounds_toArray, List.set_cons_zero, List.set_cons_succ]); refine wpAnyH_take (i := 8) (oi := { dst := some 44, op := _, type := _, pos := _, after := _, guard := _ }) (v := .pointer (some (ad1.add (i * 3)))) rfl (by kernel_rfl) (by kernel_rfl) (by kernel_rfl) (fun _ _ _ h => h) (Or.inl ⟨by rfl, fun W hW => ?_⟩) hS ?_
              · (go_simp)
              (try simp only [Act.put, List.setIfInBounds_toArray, List.set_cons_zero, List.set_cons_succ]); refine wpAnyH_take (i := 9) (oi := { dst := some 45, op := _, type := _, pos := _, after := _, guard := _ }) (v := .pointer (some ⟨(ad1.add (i * 3)).block, (ad1.add (i * 3)).off + 1, none⟩)) rfl (by kernel_rfl) (by kernel_rfl) (by kernel_rfl) (fun _ _ _ h => h) (Or.inl ⟨by rfl, fun W hW => ?_⟩) hS ?_
              · (go_simp)
              (try simp only [Act.put, List.setIfInBounds_toArray, List.set_cons_zero, List.set_cons_succ]); refine wpAnyH_take (i := 10) (oi := { dst := some 46, op := _, type := _, pos := _, after := _, guard := _ }) (v := .int .i64 a1) rfl (by kernel_rfl) (by kernel_rfl) (by kernel_rfl) (fun _ _ _ h => h) (Or.inl ⟨by rfl, fun W hW => ?_⟩) hS ?_
              · (have hcell := cell_later hW ZA.out; go_simp)
              (try simp only [Act.put, List.setIfInBounds_toArray, List.set_cons_zero, List.set_cons_succ]); refine wpAnyH_take (i := 11) (oi := { dst := some 47, op := _, type := _, pos := _, after := _, guard := _ }) (v := .slice (some ad1) n c) rfl (by kernel_rfl) (by kernel_rfl) (by kernel_rfl) (fun _ _ _ h => h) (Or.inl ⟨by rfl, fun W hW => ?_⟩) hS ?_
              · (go_simp)
              (try simp only [Act.put, List.setIfInBounds_toArray, List.set_cons_zero, List.set_cons_succ]); refine wpAnyH_take (i := 12) (oi := { dst := some 48, op := _, type := _, pos := _, after := _, guard := _ }) (v := .int .i64 ((j + 1 : Nat) : Int)) rfl (by kernel_rfl) (by kernel_rfl) (by kernel_rfl) (fun _ _ _ h => h) (Or.inl ⟨by rfl, fun W hW => ?_⟩) hS ?_
              · (go_simp)
              (try simp only [Act.put, List.setIfInBounds_toArray, List.set_cons_zero, List.set_cons_succ]); refine wpAnyH_take (i := 13) (oi := { dst := some 49, op := _, type := _, pos := _, after := _, guard := _ }) (v := .int .i64 (j : Int)) rfl (by kernel_rfl) (by kernel_rfl) (by kernel_rfl) (fun _ _ _ h => h) (Or.inl ⟨by rfl, fun W hW => ?_⟩) hS ?_
              · (go_simp)
              (try simp only [Act.put, List.setIfInBounds_toArray, List.set_cons_zero, List.set_cons_succ]); refine wpAnyH_take (i := 14) (oi := { dst := some 50, op := _, type := _, pos := _, after := _, guard := _ }) (v := .pointer (some (ad1.add (j * 3)))) rfl (by kernel_rfl) (by kernel_rfl) (by kernel_rfl) (fun _ _ _ h => h) (Or.inl ⟨by rfl, fun W hW => ?_⟩) hS ?_
              · (go_simp)
              (try simp only [Act.put, List.setIfInBounds_toArray, List.set_cons_zero, List.set_cons_succ]); refine wpAnyH_take (i := 15) (oi := { dst := some 51, op := _, type := _, pos := _, after := _, guard := _ }) (v := .pointer (some ⟨(ad1.add (j * 3)).block, (ad1.add (j * 3)).off + 2, none⟩)) rfl (by kernel_rfl) (by kernel_rfl) (by kernel_rfl) (fun _ _ _ h => h) (Or.inl ⟨by rfl, fun W hW => ?_⟩) hS ?_
              · (go_simp)
              (try simp only [Act.put, List.setIfInBounds_toArray, List.set_cons_zero, List.set_cons_succ]); refine wpAnyH_take (i := 16) (oi := { dst := some 52, op := _, type := _, pos := _, after := _, guard := _ }) (v := .int .i64 a2) rfl (by kernel_rfl) (by kernel_rfl) (by kernel_rfl) (fun _ _ _ h => h) (Or.inl ⟨by rfl, fun W hW => ?_⟩) hS ?_
              · (have hcell := cell_later hW ZB.out; go_simp)
              (try simp only [Act.put, List.setIfInBounds_toArray, List.set_cons_zero, List.set_cons_succ]); refine wpAnyH_take (i := 17) (oi := { dst := some 53, op := _, type := _, pos := _, after := _, guard := _ }) (v := .agg #[.int .i64 (i : Int), .int .i64 ((j + 1 : Nat) : Int), .int .i64 a1, .int .i64 a2]) rfl (by kernel_rfl) (by kernel_rfl) (by kernel_rfl) (fun _ _ _ h => h) (Or.inl ⟨by rfl, fun W hW => ?_⟩) hS ?_
              · (go_simp)
              (try simp only [Act.put, List.setIfInBounds_toArray, List.set_cons_zero, List.set_cons_succ]); refine wpAnyH_ready (rs := [2]) (by kernel_rfl) (by simp) ?_; refine AllReadyH.cons (o := { dst := some 38, op := _, type := _, pos := _, after := _, guard := _ }) rfl (fun K hK => ?_) AllReadyH.nil; go_simp; have S4 := Aside0.mk (SD.out.later (HB2.out _)); have C4 := Aside0.mk (HBR.out (w3.drewN 1)); refine hK.out _ _ S4.out.below (fun hS2 => ?_); clear hK K hS; have hS := hS2; clear hS2; (try simp only [Act.put, List.setIfInBounds_toArray, List.set_cons_zero, List.set_cons_succ]); refine wpAnyH_ready (rs := [3]) (by kernel_rfl) (by simp) ?_; refine AllReadyH.cons (o := { dst := some 39, op := _, type := _, pos := _, after := _, guard := _ }) rfl (fun K hK => ?_) AllReadyH.nil; go_simp; refine (HKEY.out _ S4.out.below _ t.size _ (Hp.rdC (HBR.out w3.drew)) (bytesOf_length t).symm (grownCap_ge _ _ _ _)).mono ?_; rintro E w5 ⟨rfl, p1⟩; have S5 := Aside0.mk (S4.out.later p1); clear p1; go_wp2_with fail; refine hK.out _ _ S5.out.below (fun hS2 => ?_); clear hK K hS; have hS := hS2; clear hS2; (try simp only [Act.put, List.setIfInBounds_toArray, List.set_cons_zero, List.set_cons_succ]); refine wpAnyH_take (i := 18) (oi := { dst := some 54, op := _, type := _, pos := _, after := _, guard := _ }) (v := .agg #[.string ky, .int .i64 (i : Int), .int .i64 ((j + 1 : Nat) : Int), .int .i64 a1, .int .i64 a2]) rfl (by kernel_rfl) (by kernel_rfl) (by kernel_rfl) (fun _ _ _ h => h) (Or.inl ⟨by rfl, fun W hW => ?_⟩) hS ?_
              · (go_simp)
              (try simp only [Act.put, List.setIfInBounds_toArray, List.set_cons_zero, List.set_cons_succ]); refine wpAnyH_ready (rs := [19]) (by kernel_rfl) (by simp) ?_; refine AllReadyH.cons (o := { dst := some 55, op := _, type := _, pos := _, after := _, guard := _ }) rfl (fun K hK => ?_) AllReadyH.nil; refine Kd.R_lit_step kW _ TW (by rfl) (N := 55) rfl (xs := [x]) (inner := [.string ky, .int .i64 (i : Int), .int .i64 ((j + 1 : Nat) : Int), .int .i64 a1, .int .i64 a2]) (ok := fun _ => True) (okp := fun _ => True) ?hr (Reps.c5 ?hm (Reps.none _ _)) (fun _ hk => hk) trivial (Below.refl _ _) (Nat.le_refl _) (by simp) (fun v6 w6 hR6 hb6 hg6 hat6 => ?_)
              case hr => first | (go_simp; done) | (go_simp; rfl)
              case hm => rw [HXX.out]; exact k60_mkM _ _ _ _
              obtain ⟨A6, c6, rfl, hc6, hC6⟩ := Kd.R_reads hR6; have S6 := Aside0.mk (S5.out.later hb6); clear hR6 hb6 hg6 hat6; refine hK.out _ _ S6.out.below (fun hS2 => ?_); clear hK K hS; have hS := hS2; clear hS2; (try simp only [Act.put, List.setIfInBounds_toArray, List.set_cons_zero, List.set_cons_succ]); refine wpAnyH_ready (rs := [20]) (by kernel_rfl) (by simp) ?_; refine AllReadyH.cons (o := { dst := some 56, op := _, type := _, pos := _, after := _, guard := _ }) rfl (fun K hK => ?_) AllReadyH.nil; obtain ⟨ok7, q1, q2, q3⟩ := Sep.row (d := kW) (e := TW) (base := w.heap.size) (v := u3) (xs := out) S6.out 0 rfl; refine Kd.R_append_rows_step kW (Rr := kW.K w6) (w0 := w6) w.heap.size (by rfl) (.tmp 36) (.tmp 55) 49 TW (.agg #[.string ⟨#[]⟩, .int .i64 0, .int .i64 0, .int .i64 0, .int .i64 0]) 48 rfl Tryd.underlying49 info60 rfl (by decide) (by decide) u3 out [x] A6 [x].length c6 ok7 (fun _ => False) rfl rfl q1 hC6 (fun x cs h => kW_KM x cs h) (fun _ h => h.elim) q2 (Below.refl _ _) S6.out.below.size (by have := PJ_len HP.out.2; have := HN.out; simp only [List.length_singleton]; omega) (fun v7 w7 hR7 hb7 hg7 hat7 => ?_); have S7 := Aside0.mk (q3 v7 w7 _ hR7 hg7); clear q1 q2 q3 hR7 hb7 hg7 hat7; refine hK.out _ _ S7.out.below (fun hS2 => ?_); clear hK K hS; have hS := hS2; clear hS2; (try simp only [Act.put, List.setIfInBounds_toArray, List.set_cons_zero, List.set_cons_succ]); refine wpAnyH_take (i := 21) (oi := { dst := some 3, op := _, type := _, pos := _, after := _, guard := _ }) (v := v7) rfl (by kernel_rfl) (by kernel_rfl) (by kernel_rfl) (fun _ _ _ h => h) (Or.inl ⟨by rfl, fun W hW => ?_⟩) hS ?_
              · (go_simp)
              (try simp only [Act.put, List.setIfInBounds_toArray, List.set_cons_zero, List.set_cons_succ]); refine wpAnyH_done (by kernel_rfl) ?_ _; go_wp2; go_roundw
              case rel => exact ⟨j + 1 + 1, out ++ [x], by go_num, ⟨by omega, by have h := HPC.out; rw [HX.out, ← HXX.out] at h; exact h⟩, S7⟩
              case measure => simp [intOf]; omega
          · have hd2 : decide ((i2 : Int) < (n : Int)) = false := decide_eq_false (by omega); have hd2' : decide (i2 < n) = false := decide_eq_false hlt2; have hle : i2 ≤ n := HQ.out.2.1; (have hii : i < i2 := by omega); go_upto_region 10 with (fail); have HPC := Aside0.mk (PJ_close HQ.out.2.2 (by rw [← HN.out]; omega) (fun h => absurd h (by rw [← HN.out]; exact hlt2))); clear hd2 hd2' hlt2; have HS3 := HS2; obtain ⟨j, rfl⟩ : ∃ j, i2 = j + 1 := ⟨i2 - 1, by omega⟩; obtain ⟨ad0, e0, -, Z1, -⟩ := sg_at HC.out i (by omega) (by rw [← HN.out]; omega); obtain ⟨ad1, e1, -, -, Z2⟩ := sg_at HC.out j (by omega) (by rw [← HN.out]; omega); obtain rfl : ad1 = ad0 := Option.some.inj (e1.symm.trans e0); subst e0; clear e1; (have hil : i < l.length := by rw [← HN.out]; omega); (have hjl : j < l.length := by rw [← HN.out]; omega); (have hg1 : (gAt l i).f1 = l[i].f1 := by rw [gAt_eq]); (have hg2 : (gAt l j).f2 = l[j].f2 := by rw [gAt_eq]); obtain ⟨a1, ha1⟩ : ∃ a1, a1 = l[i].f1 := ⟨_, rfl⟩; obtain ⟨a2, ha2⟩ : ∃ a2, a2 = l[j].f2 := ⟨_, rfl⟩; rw [← ha1] at Z1 hg1; rw [← ha2] at Z2 hg2; obtain ⟨ky, hky⟩ : ∃ ky, ky = keyS (bytesOf t) := ⟨_, rfl⟩
            have HX := Aside0.mk (show wordOf l (i, j + 1) = ⟨ky, ⟨i, ((j + 1 : Nat) : Int), a1, a2⟩⟩ by
              unfold wordOf keyR; simp only [Nat.add_sub_cancel, hg1, hg2]
              rw [← HT.out, hky])
            have hts : t.size ≤ 13000000 := by
              have h1 := catR_size (l.map (·.f0)) i (j + 1); rw [← HT.out] at h1; have := HSZ.out; omega
            have HKEY := Aside0.mk (fun (W : World) (h : Below w.heap.size w W) => KeyR W (HG.out.below h) t (by omega)); rw [← hky] at HKEY; (have hwj : wrap64 (((j + 1 : Nat) : Int) - 1) = (j : Int) := by unfold wrap64; omega); (have hwj3 : IntKind.i64.wrap (j : Int) = (j : Int) := by rw [IntKind.wrap_i64]; omega); have hjn : (n ≤ j) = False := eq_false (by omega); (have hwj2 : wrap64 ((j : Int) + 1 - 1) = (j : Int) := by unfold wrap64; omega); have ZA := Aside0.mk Z1; have ZB := Aside0.mk Z2; (have kb := fun W => print_bytes (P := Tryd.prog) 9 23 5 Tryd.underlying9 Tryd.underlying23 Tryd.underlying5 t W); have HB2 := Aside0.mk (fun W : World => bytes_below (Below.refl W.heap.size W) (Nat.le_refl _) 5 t); have HBR := Aside0.mk (fun W : World => bytes_reads W 5 t (by omega)); obtain ⟨x, hx⟩ : ∃ x : SW, x = ⟨ky, ⟨i, ((j + 1 : Nat) : Int), a1, a2⟩⟩ := ⟨_, rfl⟩; have HXX := Aside0.mk hx; clear hg1 hg2 ha1 ha2 hky Z1 Z2 hx; have SD := Aside0.mk (HS3.out.later ((Drawn0.refl wr).step 1).below); refine wp_region_held_drew (S := fun W => Below w.heap.size w W) (by kernel_rfl) SD.out.below (fun hS => ?_); refine wpAnyH_take (i := 0) (oi := { dst := some 36, op := _, type := _, pos := _, after := _, guard := _ }) (v := u3) rfl (by kernel_rfl) (by kernel_rfl) (by kernel_rfl) (fun _ _ _ h => h) (Or.inl ⟨by rfl, fun W hW => ?_⟩) hS ?_
            · (go_simp)
            (try simp only [Act.put, List.setIfInBounds_toArray, List.set_cons_zero, List.set_cons_succ]); refine wpAnyH_take (i := 1) (oi := { dst := some 37, op := _, type := _, pos := _, after := _, guard := _ }) (v := .string t) rfl (by kernel_rfl) (by kernel_rfl) (by kernel_rfl) (fun _ _ _ h => h) (Or.inl ⟨by rfl, fun W hW => ?_⟩) hS ?_
            · (go_simp)
            (try simp only [Act.put, List.setIfInBounds_toArray, List.set_cons_zero, List.set_cons_succ]); refine wpAnyH_take (i := 4) (oi := { dst := some 40, op := _, type := _, pos := _, after := _, guard := _ }) (v := .int .i64 (i : Int)) rfl (by kernel_rfl) (by kernel_rfl) (by kernel_rfl) (fun _ _ _ h => h) (Or.inl ⟨by rfl, fun W hW => ?_⟩) hS ?_
            · (go_simp)
            (try simp only [Act.put, List.setIfInBounds_toArray, List.set_cons_zero, List.set_cons_succ]); refine wpAnyH_take (i := 5) (oi := { dst := some 41, op := _, type := _, pos := _, after := _, guard := _ }) (v := .int .i64 ((j + 1 : Nat) : Int)) rfl (by kernel_rfl) (by kernel_rfl) (by kernel_rfl) (fun _ _ _ h => h) (Or.inl ⟨by rfl, fun W hW => ?_⟩) hS ?_
            · (go_simp)
            (try simp only [Act.put, List.setIfInBounds_toArray, List.set_cons_zero, List.set_cons_succ]); refine wpAnyH_take (i := 6) (oi := { dst := some 42, op := _, type := _, pos := _, after := _, guard := _ }) (v := .slice (some ad1) n c) rfl (by kernel_rfl) (by kernel_rfl) (by kernel_rfl) (fun _ _ _ h => h) (Or.inl ⟨by rfl, fun W hW => ?_⟩) hS ?_
            · (go_simp)
            (try simp only [Act.put, List.setIfInBounds_toArray, List.set_cons_zero, List.set_cons_succ]); refine wpAnyH_take (i := 7) (oi := { dst := some 43, op := _, type := _, pos := _, after := _, guard := _ }) (v := .int .i64 (i : Int)) rfl (by kernel_rfl) (by kernel_rfl) (by kernel_rfl) (fun _ _ _ h => h) (Or.inl ⟨by rfl, fun W hW => ?_⟩) hS ?_
            · (go_simp)
            (try simp only [Act.put, List.setIfInBounds_toArray, List.set_cons_zero, List.set_cons_succ]); refine wpAnyH_take (i := 8) (oi := { dst := some 44, op := _, type := _, pos := _, after := _, guard := _ }) (v := .pointer (some (ad1.add (i * 3)))) rfl (by kernel_rfl) (by kernel_rfl) (by kernel_rfl) (fun _ _ _ h => h) (Or.inl ⟨by rfl, fun W hW => ?_⟩) hS ?_
            · (go_simp)
            (try simp only [Act.put, List.setIfInBounds_toArray, List.set_cons_zero, List.set_cons_succ]); refine wpAnyH_take (i := 9) (oi := { dst := some 45, op := _, type := _, pos := _, after := _, guard := _ }) (v := .pointer (some ⟨(ad1.add (i * 3)).block, (ad1.add (i * 3)).off + 1, none⟩)) rfl (by kernel_rfl) (by kernel_rfl) (by kernel_rfl) (fun _ _ _ h => h) (Or.inl ⟨by rfl, fun W hW => ?_⟩) hS ?_
            · (go_simp)
            (try simp only [Act.put, List.setIfInBounds_toArray, List.set_cons_zero, List.set_cons_succ]); refine wpAnyH_take (i := 10) (oi := { dst := some 46, op := _, type := _, pos := _, after := _, guard := _ }) (v := .int .i64 a1) rfl (by kernel_rfl) (by kernel_rfl) (by kernel_rfl) (fun _ _ _ h => h) (Or.inl ⟨by rfl, fun W hW => ?_⟩) hS ?_
            · (have hcell := cell_later hW ZA.out; go_simp)
            (try simp only [Act.put, List.setIfInBounds_toArray, List.set_cons_zero, List.set_cons_succ]); refine wpAnyH_take (i := 11) (oi := { dst := some 47, op := _, type := _, pos := _, after := _, guard := _ }) (v := .slice (some ad1) n c) rfl (by kernel_rfl) (by kernel_rfl) (by kernel_rfl) (fun _ _ _ h => h) (Or.inl ⟨by rfl, fun W hW => ?_⟩) hS ?_
            · (go_simp)
            (try simp only [Act.put, List.setIfInBounds_toArray, List.set_cons_zero, List.set_cons_succ]); refine wpAnyH_take (i := 12) (oi := { dst := some 48, op := _, type := _, pos := _, after := _, guard := _ }) (v := .int .i64 ((j + 1 : Nat) : Int)) rfl (by kernel_rfl) (by kernel_rfl) (by kernel_rfl) (fun _ _ _ h => h) (Or.inl ⟨by rfl, fun W hW => ?_⟩) hS ?_
            · (go_simp)
            (try simp only [Act.put, List.setIfInBounds_toArray, List.set_cons_zero, List.set_cons_succ]); refine wpAnyH_take (i := 13) (oi := { dst := some 49, op := _, type := _, pos := _, after := _, guard := _ }) (v := .int .i64 (j : Int)) rfl (by kernel_rfl) (by kernel_rfl) (by kernel_rfl) (fun _ _ _ h => h) (Or.inl ⟨by rfl, fun W hW => ?_⟩) hS ?_
            · (go_simp)
            (try simp only [Act.put, List.setIfInBounds_toArray, List.set_cons_zero, List.set_cons_succ]); refine wpAnyH_take (i := 14) (oi := { dst := some 50, op := _, type := _, pos := _, after := _, guard := _ }) (v := .pointer (some (ad1.add (j * 3)))) rfl (by kernel_rfl) (by kernel_rfl) (by kernel_rfl) (fun _ _ _ h => h) (Or.inl ⟨by rfl, fun W hW => ?_⟩) hS ?_
            · (go_simp)
            (try simp only [Act.put, List.setIfInBounds_toArray, List.set_cons_zero, List.set_cons_succ]); refine wpAnyH_take (i := 15) (oi := { dst := some 51, op := _, type := _, pos := _, after := _, guard := _ }) (v := .pointer (some ⟨(ad1.add (j * 3)).block, (ad1.add (j * 3)).off + 2, none⟩)) rfl (by kernel_rfl) (by kernel_rfl) (by kernel_rfl) (fun _ _ _ h => h) (Or.inl ⟨by rfl, fun W hW => ?_⟩) hS ?_
            · (go_simp)
            (try simp only [Act.put, List.setIfInBounds_toArray, List.set_cons_zero, List.set_cons_succ]); refine wpAnyH_take (i := 16) (oi := { dst := some 52, op := _, type := _, pos := _, after := _, guard := _ }) (v := .int .i64 a2) rfl (by kernel_rfl) (by kernel_rfl) (by kernel_rfl) (fun _ _ _ h => h) (Or.inl ⟨by rfl, fun W hW => ?_⟩) hS ?_
            · (have hcell := cell_later hW ZB.out; go_simp)
            (try simp only [Act.put, List.setIfInBounds_toArray, List.set_cons_zero, List.set_cons_succ]); refine wpAnyH_take (i := 17) (oi := { dst := some 53, op := _, type := _, pos := _, after := _, guard := _ }) (v := .agg #[.int .i64 (i : Int), .int .i64 ((j + 1 : Nat) : Int), .int .i64 a1, .int .i64 a2]) rfl (by kernel_rfl) (by kernel_rfl) (by kernel_rfl) (fun _ _ _ h => h) (Or.inl ⟨by rfl, fun W hW => ?_⟩) hS ?_
            · (go_simp)
            (try simp only [Act.put, List.setIfInBounds_toArray, List.set_cons_zero, List.set_cons_succ]); refine wpAnyH_ready (rs := [2]) (by kernel_rfl) (by simp) ?_; refine AllReadyH.cons (o := { dst := some 38, op := _, type := _, pos := _, after := _, guard := _ }) rfl (fun K hK => ?_) AllReadyH.nil; go_simp; have S4 := Aside0.mk (SD.out.later (HB2.out _)); have C4 := Aside0.mk (HBR.out (wr.drewN 1)); refine hK.out _ _ S4.out.below (fun hS2 => ?_); clear hK K hS; have hS := hS2; clear hS2; (try simp only [Act.put, List.setIfInBounds_toArray, List.set_cons_zero, List.set_cons_succ]); refine wpAnyH_ready (rs := [3]) (by kernel_rfl) (by simp) ?_; refine AllReadyH.cons (o := { dst := some 39, op := _, type := _, pos := _, after := _, guard := _ }) rfl (fun K hK => ?_) AllReadyH.nil; go_simp; refine (HKEY.out _ S4.out.below _ t.size _ (Hp.rdC (HBR.out wr.drew)) (bytesOf_length t).symm (grownCap_ge _ _ _ _)).mono ?_; rintro E w5 ⟨rfl, p1⟩; have S5 := Aside0.mk (S4.out.later p1); clear p1; go_wp2_with fail; refine hK.out _ _ S5.out.below (fun hS2 => ?_); clear hK K hS; have hS := hS2; clear hS2; (try simp only [Act.put, List.setIfInBounds_toArray, List.set_cons_zero, List.set_cons_succ]); refine wpAnyH_take (i := 18) (oi := { dst := some 54, op := _, type := _, pos := _, after := _, guard := _ }) (v := .agg #[.string ky, .int .i64 (i : Int), .int .i64 ((j + 1 : Nat) : Int), .int .i64 a1, .int .i64 a2]) rfl (by kernel_rfl) (by kernel_rfl) (by kernel_rfl) (fun _ _ _ h => h) (Or.inl ⟨by rfl, fun W hW => ?_⟩) hS ?_
            · (go_simp)
            (try simp only [Act.put, List.setIfInBounds_toArray, List.set_cons_zero, List.set_cons_succ]); refine wpAnyH_ready (rs := [19]) (by kernel_rfl) (by simp) ?_; refine AllReadyH.cons (o := { dst := some 55, op := _, type := _, pos := _, after := _, guard := _ }) rfl (fun K hK => ?_) AllReadyH.nil; refine Kd.R_lit_step kW _ TW (by rfl) (N := 55) rfl (xs := [x]) (inner := [.string ky, .int .i64 (i : Int), .int .i64 ((j + 1 : Nat) : Int), .int .i64 a1, .int .i64 a2]) (ok := fun _ => True) (okp := fun _ => True) ?hr (Reps.c5 ?hm (Reps.none _ _)) (fun _ hk => hk) trivial (Below.refl _ _) (Nat.le_refl _) (by simp) (fun v6 w6 hR6 hb6 hg6 hat6 => ?_)
            case hr => first | (go_simp; done) | (go_simp; rfl)
            case hm => rw [HXX.out]; exact k60_mkM _ _ _ _
            obtain ⟨A6, c6, rfl, hc6, hC6⟩ := Kd.R_reads hR6; have S6 := Aside0.mk (S5.out.later hb6); clear hR6 hb6 hg6 hat6; refine hK.out _ _ S6.out.below (fun hS2 => ?_); clear hK K hS; have hS := hS2; clear hS2; (try simp only [Act.put, List.setIfInBounds_toArray, List.set_cons_zero, List.set_cons_succ]); refine wpAnyH_ready (rs := [20]) (by kernel_rfl) (by simp) ?_; refine AllReadyH.cons (o := { dst := some 56, op := _, type := _, pos := _, after := _, guard := _ }) rfl (fun K hK => ?_) AllReadyH.nil; obtain ⟨ok7, q1, q2, q3⟩ := Sep.row (d := kW) (e := TW) (base := w.heap.size) (v := u3) (xs := out) S6.out 0 rfl; refine Kd.R_append_rows_step kW (Rr := kW.K w6) (w0 := w6) w.heap.size (by rfl) (.tmp 36) (.tmp 55) 49 TW (.agg #[.string ⟨#[]⟩, .int .i64 0, .int .i64 0, .int .i64 0, .int .i64 0]) 48 rfl Tryd.underlying49 info60 rfl (by decide) (by decide) u3 out [x] A6 [x].length c6 ok7 (fun _ => False) rfl rfl q1 hC6 (fun x cs h => kW_KM x cs h) (fun _ h => h.elim) q2 (Below.refl _ _) S6.out.below.size (by have := PJ_len HP.out.2; have := HN.out; simp only [List.length_singleton]; omega) (fun v7 w7 hR7 hb7 hg7 hat7 => ?_); have S7 := Aside0.mk (q3 v7 w7 _ hR7 hg7); clear q1 q2 q3 hR7 hb7 hg7 hat7; refine hK.out _ _ S7.out.below (fun hS2 => ?_); clear hK K hS; have hS := hS2; clear hS2; (try simp only [Act.put, List.setIfInBounds_toArray, List.set_cons_zero, List.set_cons_succ]); refine wpAnyH_take (i := 21) (oi := { dst := some 3, op := _, type := _, pos := _, after := _, guard := _ }) (v := v7) rfl (by kernel_rfl) (by kernel_rfl) (by kernel_rfl) (fun _ _ _ h => h) (Or.inl ⟨by rfl, fun W hW => ?_⟩) hS ?_
            · (go_simp)
            (try simp only [Act.put, List.setIfInBounds_toArray, List.set_cons_zero, List.set_cons_succ]); refine wpAnyH_done (by kernel_rfl) ?_ _; go_wp2; go_roundw
            case rel => exact ⟨j + 1 + 1, out ++ [x], by go_num, ⟨by omega, by have h := HPC.out; rw [HX.out, ← HXX.out] at h; exact h⟩, S7⟩
            case measure => simp [intOf]; omega
    · have hd : decide ((i : Int) < (n : Int)) = false := decide_eq_false (by omega); have hd' : decide (i < n) = false := decide_eq_false hlt; have HE := Aside0.mk (PJ_end HP.out.2 (by rw [← HN.out]; omega)); clear hlt; go_wp2; go_ret; exact ⟨u3, rfl, by rw [← HE.out]; exact post_of2 HS.out 0 rfl, HS.out.below⟩
end Go.Proofs.YthffpkdadffinaaDoor.Wj
namespace Go.Proofs.YthffpkdadffinaaDoor.X
set_option linter.unusedVariables false
set_option linter.unusedSimpArgs false
open Go.RowKit YthffpkdadffinaaDoorW.PrintWords YthffpkdadffinaaDoorW.PrintLast YthffpkdadffinaaDoorW.PrintMore
def words_Join.f (l : List S67) : Option (List S60) := if Wg.sizes (l.map (·.f0)) ≤ 13000000 ∧ l.length ≤ 13000000 then some (Wg.wordsF l) else none
theorem words_Join.calls (A0 : Option Addr) (c0 : Nat) (l0 : List S67) (r : List S60) (w : World) (hr0 : Kd.C k67 w A0 l0.length l0) (hc0 : l0.length ≤ c0) (h : words_Join.f l0 = some r) (hG0 : Va.G w) :
    Calls Tryd.prog 30 #[.slice A0 l0.length c0] w fun e w' => ∃ v0_ : Value, e = .returned v0_ ∧ Kd.R k60 60 w' w.heap.size (fun _ => True) v0_ r ∧ Below w.heap.size w w' := by
  unfold words_Join.f at h; split at h
  · rename_i hh; cases Option.some.inj h; exact Wj.JoinP w hG0 A0 l0.length c0 l0 hr0 rfl hc0 hh.1 hh.2
  · cases h
end Go.Proofs.YthffpkdadffinaaDoor.X
