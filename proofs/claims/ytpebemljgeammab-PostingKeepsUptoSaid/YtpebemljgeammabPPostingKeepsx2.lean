-- PRINTED BY print.sh 35421559b90ae4d0a3588c463048766b98c2df88dd9212a6774a882060cdf62d: not written by this session
import Derived.Test.YtpebemljgeammabPPostingKeepsx0
import Derived.Test.YtpebemljgeammabPPostingKeepsx1
namespace Go.Proofs.Ytpebemljgeammab.PPostingKeeps
open Go.RowKit Go.Proofs.YtpebemljgeammabW.PrintWords Go.Proofs.YtpebemljgeammabW.PrintLast Go.Proofs.YtpebemljgeammabW.PrintMore
attribute [local go_sem] max2_int min2_int max_two min_two max_three min_three max_four min_four   -- for this text's walks alone
set_option linter.unusedVariables false
set_option linter.unusedSimpArgs false

/-! ### tremaref14_small: function 20 -/
def tremaref14_small.f (k : Nat) (l0 : List Int) (a1 : Int) : Option (Int × Int) := if a1 < 0 then (some (0, (-1))) else ((tremaref14_Read.f k l0 a1).bind fun bt119 => (if bt119.2 = 0 then (some (0, (-1))) else (if bt119.1 > 2147483647 then (some (0, (-1))) else (some (wrap64 (bt119.1), wrap64 (a1 + bt119.2))))))
theorem tremaref14_small.mono : ∀ a0 a1 k, LeO (tremaref14_small.f k a0 a1) (tremaref14_small.f (k + 1) a0 a1) := by
  intro a0 a1 k
  unfold tremaref14_small.f
  repeat' first
      | (with_reducible exact tremaref14_Read.mono _ _ _)
      | (with_reducible exact LeO.refl _)
      | (with_reducible exact LeO.none _)
      | (with_reducible refine LeO.ite ?_ ?_)
      | (with_reducible refine LeO.bind ?_ (fun _ => ?_))
      | exact tremaref14_Read.mono _ _ _
      | exact LeO.none _
      | refine LeO.ite ?_ ?_
      | refine LeO.bind ?_ (fun _ => ?_)
set_option maxHeartbeats 8000000 in
set_option maxRecDepth 100000 in
theorem tremaref14_small.calls (k : Nat) (A0 : Option Addr) (c0 : Nat) (l0 : List Int) (a1 : Int) (r1 : Int) (r2 : Int) (w : World) (hr0 : Kd.C (Kd.int .u8) w A0 l0.length l0) (hc0 : l0.length ≤ c0) (h : tremaref14_small.f k l0 a1 = some (r1, r2)) :
    Calls Try.prog 20 #[.slice A0 l0.length c0, .int .i64 a1] w fun e w' => e = .returned (.tuple #[.int .i64 r1, .int .i64 r2]) ∧ Drawn0 w w' := by
  have HR0 := Aside0.mk hr0
  have HC0 := Aside0.mk hc0
  clear hr0 hc0
  have H : (if a1 < 0 then (some (0, (-1))) else ((tremaref14_Read.f k l0 a1).bind fun bt119 => (if bt119.2 = 0 then (some (0, (-1))) else (if bt119.1 > 2147483647 then (some (0, (-1))) else (some (wrap64 (bt119.1), wrap64 (a1 + bt119.2))))))) = some (r1, r2) := h
  clear h
  by_cases c3 : a1 < 0
  · rw [if_pos c3] at H
    have c3b0 : decide (a1 < 0) = true := decide_eq_true c3
    clear c3
    simp only [Option.some.injEq, Prod.mk.injEq] at H
    obtain ⟨rfl, rfl⟩ := H
    go_enter Try.func20, Try.ntmps20
    go_wp2
    go_ret2
    exact ⟨by first | rfl | (simp; done) | (simp [*]; done), by repeat (first | exact Drawn0.refl _ | apply Drawn0.step)⟩
  · rw [if_neg c3] at H
    have c3b0 : decide (a1 < 0) = false := decide_eq_false c3
    clear c3
    replace H := Option.bind_eq_some_iff.mp H
    obtain ⟨⟨t119, t120⟩, A40, H⟩ := H
    replace H : (if t120 = 0 then (some (0, (-1))) else (if t119 > 2147483647 then (some (0, (-1))) else (some (wrap64 (t119), wrap64 (a1 + t120))))) = some (r1, r2) := H
    have A4 := Aside0.mk A40
    clear A40
    by_cases c5 : t120 = 0
    · rw [if_pos c5] at H
      have c5b0 : (t120 == 0) = true := beq_iff_eq.mpr c5
      have c5b1 : (t120 != 0) = false := bne_eq_false_iff_eq.mpr c5
      clear c5
      simp only [Option.some.injEq, Prod.mk.injEq] at H
      obtain ⟨rfl, rfl⟩ := H
      go_enter Try.func20, Try.ntmps20
      go_wp2_with (first | ((with_reducible refine gate_callee (f := 16) rfl ?_); refine goesL_ (some 13) rfl rfl Try.func16 (by kernel_rfl) rfl #[.slice A0 l0.length c0, .int .i64 a1] rfl (by (try simp only [List.map_toArray, List.map_cons, List.map_nil]); first | done | rfl | (simp only [List.length_drop, List.length_take]; rfl)) ?_; (with_reducible refine (tremaref14_Read.calls k _ _ l0 a1 t119 t120 _ ?side1 ?side2 A4.out).mono ?_); (case side1 => repeat (first | exact HR0.out | (with_reducible refine Kd.C_alloc ?_ _) | (with_reducible refine Kd.C_drewN ?_ _) | (with_reducible refine Kd.C_drew ?_))); (case side2 => exact HC0.out); rintro e w' ⟨rfl, ⟨nd, rfl⟩⟩; refine ⟨_, rfl, ?_⟩))
      go_ret2
      exact ⟨by first | rfl | (simp; done) | (simp [*]; done), by repeat (first | exact Drawn0.refl _ | apply Drawn0.step)⟩
    · rw [if_neg c5] at H
      have c5b0 : (t120 == 0) = false := beq_eq_false_iff_ne.mpr c5
      have c5b1 : (t120 != 0) = true := bne_iff_ne.mpr c5
      by_cases c6 : t119 > 2147483647
      · rw [if_pos c6] at H
        have c6b0 : decide (2147483647 < t119) = true := decide_eq_true c6
        clear c6
        simp only [Option.some.injEq, Prod.mk.injEq] at H
        obtain ⟨rfl, rfl⟩ := H
        go_enter Try.func20, Try.ntmps20
        go_wp2_with (first | ((with_reducible refine gate_callee (f := 16) rfl ?_); refine goesL_ (some 13) rfl rfl Try.func16 (by kernel_rfl) rfl #[.slice A0 l0.length c0, .int .i64 a1] rfl (by (try simp only [List.map_toArray, List.map_cons, List.map_nil]); first | done | rfl | (simp only [List.length_drop, List.length_take]; rfl)) ?_; (with_reducible refine (tremaref14_Read.calls k _ _ l0 a1 t119 t120 _ ?side1 ?side2 A4.out).mono ?_); (case side1 => repeat (first | exact HR0.out | (with_reducible refine Kd.C_alloc ?_ _) | (with_reducible refine Kd.C_drewN ?_ _) | (with_reducible refine Kd.C_drew ?_))); (case side2 => exact HC0.out); rintro e w' ⟨rfl, ⟨nd, rfl⟩⟩; refine ⟨_, rfl, ?_⟩))
        go_ret2
        exact ⟨by first | rfl | (simp; done) | (simp [*]; done), by repeat (first | exact Drawn0.refl _ | apply Drawn0.step)⟩
      · rw [if_neg c6] at H
        have c6b0 : decide (2147483647 < t119) = false := decide_eq_false c6
        clear c6
        simp only [Option.some.injEq, Prod.mk.injEq] at H
        obtain ⟨rfl, rfl⟩ := H
        go_enter Try.func20, Try.ntmps20
        go_wp2_with (first | ((with_reducible refine gate_callee (f := 16) rfl ?_); refine goesL_ (some 13) rfl rfl Try.func16 (by kernel_rfl) rfl #[.slice A0 l0.length c0, .int .i64 a1] rfl (by (try simp only [List.map_toArray, List.map_cons, List.map_nil]); first | done | rfl | (simp only [List.length_drop, List.length_take]; rfl)) ?_; (with_reducible refine (tremaref14_Read.calls k _ _ l0 a1 t119 t120 _ ?side1 ?side2 A4.out).mono ?_); (case side1 => repeat (first | exact HR0.out | (with_reducible refine Kd.C_alloc ?_ _) | (with_reducible refine Kd.C_drewN ?_ _) | (with_reducible refine Kd.C_drew ?_))); (case side2 => exact HC0.out); rintro e w' ⟨rfl, ⟨nd, rfl⟩⟩; refine ⟨_, rfl, ?_⟩))
        go_ret2
        exact ⟨by first | rfl | (simp; done) | (simp [*]; done), by repeat (first | exact Drawn0.refl _ | apply Drawn0.step)⟩

/-! ### tremaref14_May: function 21 -/
mutual
def tremaref14_May.l0 : Nat → List (S42) → Int → Option (Bool)
  | 0, _, _ => none
  | k + 1, x0, x3 => if x3 < (x0.length : Int) then (if 0 ≤ x3 then (if ((rd_T42 x0 x3).f0) < 0 then (tremaref14_May.j1 k x0 x3 true) else (if ((rd_T42 x0 x3).f0) > 2147483647 then (tremaref14_May.j1 k x0 x3 true) else (if x3 > 0 then (if 0 ≤ (wrap64 (x3 - 1)) then (if (wrap64 (x3 - 1)) < (x0.length : Int) then (if ((rd_T42 x0 x3).f0) ≤ ((rd_T42 x0 (wrap64 (x3 - 1))).f0) then (tremaref14_May.j1 k x0 x3 true) else (tremaref14_May.j1 k x0 x3 ((((rd_T42 x0 x3).f1).length : Int) == 0))) else (none)) else (none)) else (tremaref14_May.j1 k x0 x3 ((((rd_T42 x0 x3).f1).length : Int) == 0))))) else (none)) else (some true)
def tremaref14_May.j1 : Nat → List (S42) → Int → Bool → Option (Bool)
  | 0, _, _, _ => none
  | k + 1, x0, x3, x52 => if x52 = true then (some false) else (tremaref14_May.l1 k x0 x3 0)
def tremaref14_May.l1 : Nat → List (S42) → Int → Int → Option (Bool)
  | 0, _, _, _ => none
  | k + 1, x0, x3, x4 => if 0 ≤ x3 then (if x3 < (x0.length : Int) then (if x4 < (((rd_T42 x0 x3).f1).length : Int) then (if 0 ≤ x4 then (if (rd ((rd_T42 x0 x3).f1) x4) < 0 then (some false) else (if (rd ((rd_T42 x0 x3).f1) x4) > 2147483647 then (some false) else (if x4 > 0 then (if 0 ≤ (wrap64 (x4 - 1)) then (if (wrap64 (x4 - 1)) < (((rd_T42 x0 x3).f1).length : Int) then (if (rd ((rd_T42 x0 x3).f1) x4) ≤ (rd ((rd_T42 x0 x3).f1) (wrap64 (x4 - 1))) then (some false) else (tremaref14_May.l1 k x0 x3 (wrap64 (x4 + 1)))) else (none)) else (none)) else (tremaref14_May.l1 k x0 x3 (wrap64 (x4 + 1)))))) else (none)) else (tremaref14_May.l0 k x0 (wrap64 (x3 + 1)))) else (none)) else (none)
end
def tremaref14_May.f (k : Nat) (l0 : List (S42)) : Option (Bool) := tremaref14_May.l0 k l0 0
theorem tremaref14_May.mono_l : ∀ k, (∀ y0 y1, LeO (tremaref14_May.l0 k y0 y1) (tremaref14_May.l0 (k + 1) y0 y1)) ∧ (∀ y0 y1 y2, LeO (tremaref14_May.j1 k y0 y1 y2) (tremaref14_May.j1 (k + 1) y0 y1 y2)) ∧ (∀ y0 y1 y2, LeO (tremaref14_May.l1 k y0 y1 y2) (tremaref14_May.l1 (k + 1) y0 y1 y2))
  | 0 => ⟨fun _ _ r h => by simp [tremaref14_May.l0] at h, fun _ _ _ r h => by simp [tremaref14_May.j1] at h, fun _ _ _ r h => by simp [tremaref14_May.l1] at h⟩
  | k + 1 => by
    obtain ⟨ih0, ih1, ih2⟩ := tremaref14_May.mono_l k
    refine ⟨?_, ?_, ?_⟩
    · intro y0 y1
      unfold tremaref14_May.l0
      repeat' first
      | (with_reducible exact ih0 _ _)
      | (with_reducible exact ih1 _ _ _)
      | (with_reducible exact ih2 _ _ _)
      | (with_reducible exact LeO.refl _)
      | (with_reducible exact LeO.none _)
      | (with_reducible refine LeO.ite ?_ ?_)
      | (with_reducible refine LeO.bind ?_ (fun _ => ?_))
      | exact ih0 _ _
      | exact ih1 _ _ _
      | exact ih2 _ _ _
      | exact LeO.none _
      | refine LeO.ite ?_ ?_
      | refine LeO.bind ?_ (fun _ => ?_)
    · intro y0 y1 y2
      unfold tremaref14_May.j1
      repeat' first
      | (with_reducible exact ih0 _ _)
      | (with_reducible exact ih1 _ _ _)
      | (with_reducible exact ih2 _ _ _)
      | (with_reducible exact LeO.refl _)
      | (with_reducible exact LeO.none _)
      | (with_reducible refine LeO.ite ?_ ?_)
      | (with_reducible refine LeO.bind ?_ (fun _ => ?_))
      | exact ih0 _ _
      | exact ih1 _ _ _
      | exact ih2 _ _ _
      | exact LeO.none _
      | refine LeO.ite ?_ ?_
      | refine LeO.bind ?_ (fun _ => ?_)
    · intro y0 y1 y2
      unfold tremaref14_May.l1
      repeat' first
      | (with_reducible exact ih0 _ _)
      | (with_reducible exact ih1 _ _ _)
      | (with_reducible exact ih2 _ _ _)
      | (with_reducible exact LeO.refl _)
      | (with_reducible exact LeO.none _)
      | (with_reducible refine LeO.ite ?_ ?_)
      | (with_reducible refine LeO.bind ?_ (fun _ => ?_))
      | exact ih0 _ _
      | exact ih1 _ _ _
      | exact ih2 _ _ _
      | exact LeO.none _
      | refine LeO.ite ?_ ?_
      | refine LeO.bind ?_ (fun _ => ?_)
theorem tremaref14_May.mono : ∀ a0 k, LeO (tremaref14_May.f k a0) (tremaref14_May.f (k + 1) a0) := by
  intro a0 k
  obtain ⟨ih0, ih1, ih2⟩ := tremaref14_May.mono_l k
  unfold tremaref14_May.f
  repeat' first
      | (with_reducible exact ih0 _ _)
      | (with_reducible exact ih1 _ _ _)
      | (with_reducible exact ih2 _ _ _)
      | (with_reducible exact LeO.refl _)
      | (with_reducible exact LeO.none _)
      | (with_reducible refine LeO.ite ?_ ?_)
      | (with_reducible refine LeO.bind ?_ (fun _ => ?_))
      | exact ih0 _ _
      | exact ih1 _ _ _
      | exact ih2 _ _ _
      | exact LeO.none _
      | refine LeO.ite ?_ ?_
      | refine LeO.bind ?_ (fun _ => ?_)
set_option maxHeartbeats 8000000 in
set_option maxRecDepth 100000 in
theorem tremaref14_May.calls (k : Nat) (A0 : Option Addr) (c0 : Nat) (l0 : List (S42)) (r : Bool) (w : World) (hr0 : Kd.C k42 w A0 l0.length l0) (hc0 : l0.length ≤ c0) (h : tremaref14_May.f k l0 = some r) :
    Calls Try.prog 21 #[.slice A0 l0.length c0] w fun e w' => e = .returned (.bool r) ∧ Drawn0 w w' := by
  have HR0 := Aside0.mk hr0
  have HC0 := Aside0.mk hc0
  clear hr0 hc0
  have H : (tremaref14_May.l0 k l0 0) = some r := h
  clear h
  have H' := Aside0.mk H
  clear H
  go_enter Try.func21, Try.ntmps21
  go_wp2
  repeat (go_quiet (fail); try go_wp2)
  go_loopg [3] k (fun kq v3 w' => ∃ (x3_1 : Int), v3 = .int .i64 x3_1 ∧ Aside0 (tremaref14_May.l0 kq l0 x3_1 = some r) ∧ Aside0 (kq ≤ k) ∧ Drawn0 w w')
  case atStart => exact ⟨(0), (by first | rfl | (simp; done) | (simp [*]; done)), H', ⟨Nat.le_refl _⟩, by repeat (first | exact Drawn0.refl _ | apply Drawn0.step)⟩
  case round =>
    clear H'
    obtain ⟨x3_1, rfl, HA, HK1, ⟨m1, rfl⟩⟩ := hrel
    cases gk with
    | zero => exact absurd HA.out (by simp [tremaref14_May.l0])
    | succ k1 =>
      have H := HA.out
      clear HA
      simp only [tremaref14_May.l0] at H
      by_cases c2 : x3_1 < (l0.length : Int)
      · rw [if_pos c2] at H
        have c2b0 : decide (x3_1 < (l0.length : Int)) = true := decide_eq_true c2
        clear c2
        have HC3 := Aside0.mk H
        clear H
        go_upto_region 4 with (fail)
        repeat (go_quiet (fail); go_upto_region 4 with (fail))
        go_cut [52] (fun v52 wc => ∃ (kq : Nat) (x52_2 : Bool), v52 = .bool x52_2 ∧ Aside0 (tremaref14_May.j1 kq l0 x3_1 x52_2 = some r) ∧ Aside0 (kq ≤ k1) ∧ Drawn0 w wc)
        case first =>
          have H := HC3.out
          clear HC3
          by_cases c4 : 0 ≤ x3_1
          · rw [if_pos c4] at H
            have c4b0 : decide (0 ≤ x3_1) = true := decide_eq_true c4
            clear c4
            (first | rw [c4b0] | (simp only [i64_w, i32_w]; rw [c4b0]) | skip)
            by_cases c5 : ((rd_T42 l0 x3_1).f0) < 0
            · rw [if_pos c5] at H
              have c5b0 : decide (((rd_T42 l0 x3_1).f0) < 0) = true := decide_eq_true c5
              clear c5
              have H' := Aside0.mk H
              clear H
              have p121 : 0 ≤ (x3_1 : Int) := of_decide_eq_true (by first | (with_reducible assumption) | assumption)
              have q121 : x3_1 < (l0.length : Int) := of_decide_eq_true (by first | (with_reducible assumption) | assumption)
              obtain ⟨ad121, A121_1, c121_1, e121, hx121_0, hx121_1, hl121_1, hi121_1⟩ := at_T42 HR0.out x3_1 p121 q121
              cases e121
              have HR121_1 := Aside0.mk hi121_1
              have HC121_1 := Aside0.mk hl121_1
              clear hi121_1 hl121_1
              replace p121 := eq_true p121
              replace q121 := eq_true q121
              go_wp2
              repeat (go_quiet (fail); try go_wp2)
              go_meet
              case rel => exact ⟨_, (true), (by first | rfl | (simp; done) | (simp [*]; done)), H', ⟨by have := HK1.out; first | omega | exact Nat.le_refl _⟩, by repeat (first | exact Drawn0.refl _ | apply Drawn0.step)⟩
            · rw [if_neg c5] at H
              have c5b0 : decide (((rd_T42 l0 x3_1).f0) < 0) = false := decide_eq_false c5
              clear c5
              by_cases c6 : ((rd_T42 l0 x3_1).f0) > 2147483647
              · rw [if_pos c6] at H
                have c6b0 : decide (2147483647 < ((rd_T42 l0 x3_1).f0)) = true := decide_eq_true c6
                clear c6
                have H' := Aside0.mk H
                clear H
                have p121 : 0 ≤ (x3_1 : Int) := of_decide_eq_true (by first | (with_reducible assumption) | assumption)
                have q121 : x3_1 < (l0.length : Int) := of_decide_eq_true (by first | (with_reducible assumption) | assumption)
                obtain ⟨ad121, A121_1, c121_1, e121, hx121_0, hx121_1, hl121_1, hi121_1⟩ := at_T42 HR0.out x3_1 p121 q121
                cases e121
                have HR121_1 := Aside0.mk hi121_1
                have HC121_1 := Aside0.mk hl121_1
                clear hi121_1 hl121_1
                replace p121 := eq_true p121
                replace q121 := eq_true q121
                have p122 : 0 ≤ (x3_1 : Int) := of_decide_eq_true (by first | (with_reducible assumption) | assumption)
                have q122 : x3_1 < (l0.length : Int) := of_decide_eq_true (by first | (with_reducible assumption) | assumption)
                obtain ⟨ad122, A122_1, c122_1, e122, hx122_0, hx122_1, hl122_1, hi122_1⟩ := at_T42 HR0.out x3_1 p122 q122
                obtain rfl : ad121 = ad122 := (by injection e122)
                have HR122_1 := Aside0.mk hi122_1
                have HC122_1 := Aside0.mk hl122_1
                clear hi122_1 hl122_1
                replace p122 := eq_true p122
                replace q122 := eq_true q122
                have ea_ := Option.some.inj (hx121_1.symm.trans hx122_1)
                injection ea_ with ea_ en_ ec_
                subst ea_
                subst ec_
                clear en_
                go_wp2
                repeat (go_quiet (fail); try go_wp2)
                go_meet
                case rel => exact ⟨_, (true), (by first | rfl | (simp; done) | (simp [*]; done)), H', ⟨by have := HK1.out; first | omega | exact Nat.le_refl _⟩, by repeat (first | exact Drawn0.refl _ | apply Drawn0.step)⟩
              · rw [if_neg c6] at H
                have c6b0 : decide (2147483647 < ((rd_T42 l0 x3_1).f0)) = false := decide_eq_false c6
                clear c6
                by_cases c7 : x3_1 > 0
                · rw [if_pos c7] at H
                  have c7b0 : decide (0 < x3_1) = true := decide_eq_true c7
                  clear c7
                  obtain ⟨ji8, hji8⟩ : ∃ j_ : Int, (wrap64 (x3_1 - 1)) = j_ := ⟨_, rfl⟩
                  replace H : (if 0 ≤ (ji8) then (if (ji8) < (l0.length : Int) then (if ((rd_T42 l0 x3_1).f0) ≤ ((rd_T42 l0 (ji8)).f0) then (tremaref14_May.j1 k1 l0 x3_1 true) else (tremaref14_May.j1 k1 l0 x3_1 ((((rd_T42 l0 x3_1).f1).length : Int) == 0))) else (none)) else (none)) = some r := by first | (rw [hji8] at H; exact H) | (simp only [hji8] at H ⊢; exact H)
                  have hji8w : (IntKind.i64.wrap (x3_1 - 1)) = ji8 := (i64_w _).trans hji8
                  by_cases c9 : 0 ≤ (ji8)
                  · rw [if_pos c9] at H
                    have c9b0 : decide (0 ≤ (ji8)) = true := decide_eq_true c9
                    clear c9
                    by_cases c10 : (ji8) < (l0.length : Int)
                    · rw [if_pos c10] at H
                      have c10b0 : decide ((ji8) < (l0.length : Int)) = true := decide_eq_true c10
                      clear c10
                      by_cases c11 : ((rd_T42 l0 x3_1).f0) ≤ ((rd_T42 l0 (ji8)).f0)
                      · rw [if_pos c11] at H
                        have c11b0 : decide (((rd_T42 l0 x3_1).f0) ≤ ((rd_T42 l0 (ji8)).f0)) = true := decide_eq_true c11
                        clear c11
                        have H' := Aside0.mk H
                        clear H
                        have p121 : 0 ≤ (x3_1 : Int) := of_decide_eq_true (by first | (with_reducible assumption) | assumption)
                        have q121 : x3_1 < (l0.length : Int) := of_decide_eq_true (by first | (with_reducible assumption) | assumption)
                        obtain ⟨ad121, A121_1, c121_1, e121, hx121_0, hx121_1, hl121_1, hi121_1⟩ := at_T42 HR0.out x3_1 p121 q121
                        cases e121
                        have HR121_1 := Aside0.mk hi121_1
                        have HC121_1 := Aside0.mk hl121_1
                        clear hi121_1 hl121_1
                        replace p121 := eq_true p121
                        replace q121 := eq_true q121
                        have p122 : 0 ≤ (x3_1 : Int) := of_decide_eq_true (by first | (with_reducible assumption) | assumption)
                        have q122 : x3_1 < (l0.length : Int) := of_decide_eq_true (by first | (with_reducible assumption) | assumption)
                        obtain ⟨ad122, A122_1, c122_1, e122, hx122_0, hx122_1, hl122_1, hi122_1⟩ := at_T42 HR0.out x3_1 p122 q122
                        obtain rfl : ad121 = ad122 := (by injection e122)
                        have HR122_1 := Aside0.mk hi122_1
                        have HC122_1 := Aside0.mk hl122_1
                        clear hi122_1 hl122_1
                        replace p122 := eq_true p122
                        replace q122 := eq_true q122
                        have ea_ := Option.some.inj (hx121_1.symm.trans hx122_1)
                        injection ea_ with ea_ en_ ec_
                        subst ea_
                        subst ec_
                        clear en_
                        have p123 : 0 ≤ (x3_1 : Int) := of_decide_eq_true (by first | (with_reducible assumption) | assumption)
                        have q123 : x3_1 < (l0.length : Int) := of_decide_eq_true (by first | (with_reducible assumption) | assumption)
                        obtain ⟨ad123, A123_1, c123_1, e123, hx123_0, hx123_1, hl123_1, hi123_1⟩ := at_T42 HR0.out x3_1 p123 q123
                        obtain rfl : ad121 = ad123 := (by injection e123)
                        have HR123_1 := Aside0.mk hi123_1
                        have HC123_1 := Aside0.mk hl123_1
                        clear hi123_1 hl123_1
                        replace p123 := eq_true p123
                        replace q123 := eq_true q123
                        have ea_ := Option.some.inj (hx121_1.symm.trans hx123_1)
                        injection ea_ with ea_ en_ ec_
                        subst ea_
                        subst ec_
                        clear en_
                        have p124 : 0 ≤ ((ji8) : Int) := of_decide_eq_true (by first | (with_reducible assumption) | assumption)
                        have q124 : (ji8) < (l0.length : Int) := of_decide_eq_true (by first | (with_reducible assumption) | assumption)
                        obtain ⟨ad124, A124_1, c124_1, e124, hx124_0, hx124_1, hl124_1, hi124_1⟩ := at_T42 HR0.out (ji8) p124 q124
                        obtain rfl : ad121 = ad124 := (by injection e124)
                        have HR124_1 := Aside0.mk hi124_1
                        have HC124_1 := Aside0.mk hl124_1
                        clear hi124_1 hl124_1
                        replace p124 := eq_true p124
                        replace q124 := eq_true q124
                        go_wp2
                        repeat (go_quiet (fail); try go_wp2)
                        go_meet
                        case rel => exact ⟨_, (true), (by first | rfl | (simp; done) | (simp [*]; done)), H', ⟨by have := HK1.out; first | omega | exact Nat.le_refl _⟩, by repeat (first | exact Drawn0.refl _ | apply Drawn0.step)⟩
                      · rw [if_neg c11] at H
                        have c11b0 : decide (((rd_T42 l0 x3_1).f0) ≤ ((rd_T42 l0 (ji8)).f0)) = false := decide_eq_false c11
                        clear c11
                        have H' := Aside0.mk H
                        clear H
                        have p121 : 0 ≤ (x3_1 : Int) := of_decide_eq_true (by first | (with_reducible assumption) | assumption)
                        have q121 : x3_1 < (l0.length : Int) := of_decide_eq_true (by first | (with_reducible assumption) | assumption)
                        obtain ⟨ad121, A121_1, c121_1, e121, hx121_0, hx121_1, hl121_1, hi121_1⟩ := at_T42 HR0.out x3_1 p121 q121
                        cases e121
                        have HR121_1 := Aside0.mk hi121_1
                        have HC121_1 := Aside0.mk hl121_1
                        clear hi121_1 hl121_1
                        replace p121 := eq_true p121
                        replace q121 := eq_true q121
                        have p122 : 0 ≤ (x3_1 : Int) := of_decide_eq_true (by first | (with_reducible assumption) | assumption)
                        have q122 : x3_1 < (l0.length : Int) := of_decide_eq_true (by first | (with_reducible assumption) | assumption)
                        obtain ⟨ad122, A122_1, c122_1, e122, hx122_0, hx122_1, hl122_1, hi122_1⟩ := at_T42 HR0.out x3_1 p122 q122
                        obtain rfl : ad121 = ad122 := (by injection e122)
                        have HR122_1 := Aside0.mk hi122_1
                        have HC122_1 := Aside0.mk hl122_1
                        clear hi122_1 hl122_1
                        replace p122 := eq_true p122
                        replace q122 := eq_true q122
                        have ea_ := Option.some.inj (hx121_1.symm.trans hx122_1)
                        injection ea_ with ea_ en_ ec_
                        subst ea_
                        subst ec_
                        clear en_
                        have p123 : 0 ≤ (x3_1 : Int) := of_decide_eq_true (by first | (with_reducible assumption) | assumption)
                        have q123 : x3_1 < (l0.length : Int) := of_decide_eq_true (by first | (with_reducible assumption) | assumption)
                        obtain ⟨ad123, A123_1, c123_1, e123, hx123_0, hx123_1, hl123_1, hi123_1⟩ := at_T42 HR0.out x3_1 p123 q123
                        obtain rfl : ad121 = ad123 := (by injection e123)
                        have HR123_1 := Aside0.mk hi123_1
                        have HC123_1 := Aside0.mk hl123_1
                        clear hi123_1 hl123_1
                        replace p123 := eq_true p123
                        replace q123 := eq_true q123
                        have ea_ := Option.some.inj (hx121_1.symm.trans hx123_1)
                        injection ea_ with ea_ en_ ec_
                        subst ea_
                        subst ec_
                        clear en_
                        have p124 : 0 ≤ ((ji8) : Int) := of_decide_eq_true (by first | (with_reducible assumption) | assumption)
                        have q124 : (ji8) < (l0.length : Int) := of_decide_eq_true (by first | (with_reducible assumption) | assumption)
                        obtain ⟨ad124, A124_1, c124_1, e124, hx124_0, hx124_1, hl124_1, hi124_1⟩ := at_T42 HR0.out (ji8) p124 q124
                        obtain rfl : ad121 = ad124 := (by injection e124)
                        have HR124_1 := Aside0.mk hi124_1
                        have HC124_1 := Aside0.mk hl124_1
                        clear hi124_1 hl124_1
                        replace p124 := eq_true p124
                        replace q124 := eq_true q124
                        have p125 : 0 ≤ (x3_1 : Int) := of_decide_eq_true (by first | (with_reducible assumption) | assumption)
                        have q125 : x3_1 < (l0.length : Int) := of_decide_eq_true (by first | (with_reducible assumption) | assumption)
                        obtain ⟨ad125, A125_1, c125_1, e125, hx125_0, hx125_1, hl125_1, hi125_1⟩ := at_T42 HR0.out x3_1 p125 q125
                        obtain rfl : ad121 = ad125 := (by injection e125)
                        have HR125_1 := Aside0.mk hi125_1
                        have HC125_1 := Aside0.mk hl125_1
                        clear hi125_1 hl125_1
                        replace p125 := eq_true p125
                        replace q125 := eq_true q125
                        have ea_ := Option.some.inj (hx121_1.symm.trans hx125_1)
                        injection ea_ with ea_ en_ ec_
                        subst ea_
                        subst ec_
                        clear en_
                        go_wp2
                        repeat (go_quiet (fail); try go_wp2)
                        go_meet
                        case rel => exact ⟨_, (((((rd_T42 l0 x3_1).f1).length : Int) == 0)), (by first | rfl | (simp; done) | (simp [*]; done)), H', ⟨by have := HK1.out; first | omega | exact Nat.le_refl _⟩, by repeat (first | exact Drawn0.refl _ | apply Drawn0.step)⟩
                    · rw [if_neg c10] at H
                      exact absurd H (by simp)
                  · rw [if_neg c9] at H
                    exact absurd H (by simp)
                · rw [if_neg c7] at H
                  have c7b0 : decide (0 < x3_1) = false := decide_eq_false c7
                  clear c7
                  have H' := Aside0.mk H
                  clear H
                  have p121 : 0 ≤ (x3_1 : Int) := of_decide_eq_true (by first | (with_reducible assumption) | assumption)
                  have q121 : x3_1 < (l0.length : Int) := of_decide_eq_true (by first | (with_reducible assumption) | assumption)
                  obtain ⟨ad121, A121_1, c121_1, e121, hx121_0, hx121_1, hl121_1, hi121_1⟩ := at_T42 HR0.out x3_1 p121 q121
                  cases e121
                  have HR121_1 := Aside0.mk hi121_1
                  have HC121_1 := Aside0.mk hl121_1
                  clear hi121_1 hl121_1
                  replace p121 := eq_true p121
                  replace q121 := eq_true q121
                  have p122 : 0 ≤ (x3_1 : Int) := of_decide_eq_true (by first | (with_reducible assumption) | assumption)
                  have q122 : x3_1 < (l0.length : Int) := of_decide_eq_true (by first | (with_reducible assumption) | assumption)
                  obtain ⟨ad122, A122_1, c122_1, e122, hx122_0, hx122_1, hl122_1, hi122_1⟩ := at_T42 HR0.out x3_1 p122 q122
                  obtain rfl : ad121 = ad122 := (by injection e122)
                  have HR122_1 := Aside0.mk hi122_1
                  have HC122_1 := Aside0.mk hl122_1
                  clear hi122_1 hl122_1
                  replace p122 := eq_true p122
                  replace q122 := eq_true q122
                  have ea_ := Option.some.inj (hx121_1.symm.trans hx122_1)
                  injection ea_ with ea_ en_ ec_
                  subst ea_
                  subst ec_
                  clear en_
                  have p126 : 0 ≤ (x3_1 : Int) := of_decide_eq_true (by first | (with_reducible assumption) | assumption)
                  have q126 : x3_1 < (l0.length : Int) := of_decide_eq_true (by first | (with_reducible assumption) | assumption)
                  obtain ⟨ad126, A126_1, c126_1, e126, hx126_0, hx126_1, hl126_1, hi126_1⟩ := at_T42 HR0.out x3_1 p126 q126
                  obtain rfl : ad121 = ad126 := (by injection e126)
                  have HR126_1 := Aside0.mk hi126_1
                  have HC126_1 := Aside0.mk hl126_1
                  clear hi126_1 hl126_1
                  replace p126 := eq_true p126
                  replace q126 := eq_true q126
                  have ea_ := Option.some.inj (hx121_1.symm.trans hx126_1)
                  injection ea_ with ea_ en_ ec_
                  subst ea_
                  subst ec_
                  clear en_
                  go_wp2
                  repeat (go_quiet (fail); try go_wp2)
                  go_meet
                  case rel => exact ⟨_, (((((rd_T42 l0 x3_1).f1).length : Int) == 0)), (by first | rfl | (simp; done) | (simp [*]; done)), H', ⟨by have := HK1.out; first | omega | exact Nat.le_refl _⟩, by repeat (first | exact Drawn0.refl _ | apply Drawn0.step)⟩
          · rw [if_neg c4] at H
            exact absurd H (by simp)
        case rest =>
          clear HC3
          try clear c1
          try clear p1
          try clear q1
          try clear hx1
          try clear c2
          try clear c2b0
          try clear p2
          try clear c4
          try clear c4b0
          try clear c5
          try clear c5b0
          try clear c6
          try clear c6b0
          try clear p6
          try clear c7
          try clear c7b0
          try clear c9
          try clear c9b0
          try clear c10
          try clear c10b0
          try clear c11
          try clear c11b0
          try clear hx121_0
          try clear hx121_1
          try clear hx122_0
          try clear hx122_1
          try clear hx123_0
          try clear hx123_1
          try clear hx124_0
          try clear hx124_1
          try clear hx125_0
          try clear hx125_1
          try clear hx126_0
          try clear hx126_1
          try clear p121
          try clear p122
          try clear p123
          try clear p124
          try clear p125
          try clear p126
          try clear q121
          try clear q122
          try clear q123
          try clear q124
          try clear q125
          try clear q126
          obtain ⟨kq, x52_2, rfl, HA, HJ2, ⟨mc2, rfl⟩⟩ := hcut
          cases kq with
          | zero => exact absurd HA.out (by simp [tremaref14_May.j1])
          | succ kj2 =>
            have H := HA.out
            clear HA
            simp only [tremaref14_May.j1] at H
            by_cases c12 : x52_2 = true
            · subst c12
              have H1 : (some false) = some r := by rw [if_pos rfl] at H; exact H
              clear H
              have H := H1
              clear H1
              obtain rfl := Option.some.inj H
              go_wp2
              repeat (go_quiet (fail); try go_wp2)
              go_ret
              exact ⟨by first | rfl | (simp; done) | (simp [*]; done), by repeat (first | exact Drawn0.refl _ | apply Drawn0.step)⟩
            · replace c12 := Bool.eq_false_iff.mpr c12
              subst c12
              have H1 : (tremaref14_May.l1 kj2 l0 x3_1 0) = some r := by rw [if_neg (show ¬ (false = true) by decide)] at H; exact H
              clear H
              have H := H1
              clear H1
              have H' := Aside0.mk H
              clear H
              go_wp2
              repeat (go_quiet (fail); try go_wp2)
              go_loopg [4] kj2 (fun kq v4 w' => ∃ (x4_3 : Int), v4 = .int .i64 x4_3 ∧ Aside0 (tremaref14_May.l1 kq l0 x3_1 x4_3 = some r) ∧ Aside0 (kq ≤ kj2) ∧ Drawn0 w w')
              case atStart => exact ⟨(0), (by first | rfl | (simp; done) | (simp [*]; done)), H', ⟨Nat.le_refl _⟩, by repeat (first | exact Drawn0.refl _ | apply Drawn0.step)⟩
              case round =>
                clear H'
                try clear c1
                try clear p1
                try clear q1
                try clear hx1
                try clear c2
                try clear c2b0
                try clear p2
                try clear c4
                try clear c4b0
                try clear c5
                try clear c5b0
                try clear c6
                try clear c6b0
                try clear p6
                try clear c7
                try clear c7b0
                try clear c9
                try clear c9b0
                try clear c10
                try clear c10b0
                try clear c11
                try clear c11b0
                try clear c12
                try clear p12
                try clear q12
                try clear hx12
                try clear hx121_0
                try clear hx121_1
                try clear hx122_0
                try clear hx122_1
                try clear hx123_0
                try clear hx123_1
                try clear hx124_0
                try clear hx124_1
                try clear hx125_0
                try clear hx125_1
                try clear hx126_0
                try clear hx126_1
                try clear p1
                try clear p121
                try clear p122
                try clear p123
                try clear p124
                try clear p125
                try clear p126
                try clear p2
                try clear p6
                try clear q1
                try clear q121
                try clear q122
                try clear q123
                try clear q124
                try clear q125
                try clear q126
                obtain ⟨x4_3, rfl, HA, HK3, ⟨m3, rfl⟩⟩ := hrel
                cases gk with
                | zero => exact absurd HA.out (by simp [tremaref14_May.l1])
                | succ k3 =>
                  have H := HA.out
                  clear HA
                  simp only [tremaref14_May.l1] at H
                  by_cases c13 : 0 ≤ x3_1
                  · rw [if_pos c13] at H
                    have c13b0 : decide (0 ≤ x3_1) = true := decide_eq_true c13
                    clear c13
                    by_cases c14 : x3_1 < (l0.length : Int)
                    · rw [if_pos c14] at H
                      have c14b0 : decide (x3_1 < (l0.length : Int)) = true := decide_eq_true c14
                      clear c14
                      by_cases c15 : x4_3 < (((rd_T42 l0 x3_1).f1).length : Int)
                      · rw [if_pos c15] at H
                        have c15b0 : decide (x4_3 < (((rd_T42 l0 x3_1).f1).length : Int)) = true := decide_eq_true c15
                        clear c15
                        by_cases c16 : 0 ≤ x4_3
                        · rw [if_pos c16] at H
                          have c16b0 : decide (0 ≤ x4_3) = true := decide_eq_true c16
                          clear c16
                          by_cases c17 : (rd ((rd_T42 l0 x3_1).f1) x4_3) < 0
                          · rw [if_pos c17] at H
                            have c17b0 : decide ((rd ((rd_T42 l0 x3_1).f1) x4_3) < 0) = true := decide_eq_true c17
                            clear c17
                            obtain rfl := Option.some.inj H
                            have p127 : 0 ≤ (x3_1 : Int) := of_decide_eq_true (by first | (with_reducible assumption) | assumption)
                            have q127 : x3_1 < (l0.length : Int) := of_decide_eq_true (by first | (with_reducible assumption) | assumption)
                            obtain ⟨ad127, A127_1, c127_1, e127, hx127_0, hx127_1, hl127_1, hi127_1⟩ := at_T42 HR0.out x3_1 p127 q127
                            cases e127
                            have HR127_1 := Aside0.mk hi127_1
                            have HC127_1 := Aside0.mk hl127_1
                            clear hi127_1 hl127_1
                            replace p127 := eq_true p127
                            replace q127 := eq_true q127
                            have p128 : 0 ≤ (x3_1 : Int) := of_decide_eq_true (by first | (with_reducible assumption) | assumption)
                            have q128 : x3_1 < (l0.length : Int) := of_decide_eq_true (by first | (with_reducible assumption) | assumption)
                            obtain ⟨ad128, A128_1, c128_1, e128, hx128_0, hx128_1, hl128_1, hi128_1⟩ := at_T42 HR0.out x3_1 p128 q128
                            obtain rfl : ad127 = ad128 := (by injection e128)
                            have HR128_1 := Aside0.mk hi128_1
                            have HC128_1 := Aside0.mk hl128_1
                            clear hi128_1 hl128_1
                            replace p128 := eq_true p128
                            replace q128 := eq_true q128
                            have ea_ := Option.some.inj (hx127_1.symm.trans hx128_1)
                            injection ea_ with ea_ en_ ec_
                            subst ea_
                            subst ec_
                            clear en_
                            have p129 : 0 ≤ (x4_3 : Int) := of_decide_eq_true (by first | (with_reducible assumption) | assumption)
                            have q129 : x4_3 < (((rd_T42 l0 x3_1).f1).length : Int) := of_decide_eq_true (by first | (with_reducible assumption) | assumption)
                            obtain ⟨ad129, e129, hx129_0⟩ := Kd.at_int HR128_1.out x4_3 p129 q129
                            cases e129
                            replace p129 := eq_true p129
                            replace q129 := eq_true q129
                            go_wp2
                            repeat (go_quiet (fail); try go_wp2)
                            go_ret
                            exact ⟨by first | rfl | (simp; done) | (simp [*]; done), by repeat (first | exact Drawn0.refl _ | apply Drawn0.step)⟩
                          · rw [if_neg c17] at H
                            have c17b0 : decide ((rd ((rd_T42 l0 x3_1).f1) x4_3) < 0) = false := decide_eq_false c17
                            clear c17
                            by_cases c18 : (rd ((rd_T42 l0 x3_1).f1) x4_3) > 2147483647
                            · rw [if_pos c18] at H
                              have c18b0 : decide (2147483647 < (rd ((rd_T42 l0 x3_1).f1) x4_3)) = true := decide_eq_true c18
                              clear c18
                              obtain rfl := Option.some.inj H
                              have p127 : 0 ≤ (x3_1 : Int) := of_decide_eq_true (by first | (with_reducible assumption) | assumption)
                              have q127 : x3_1 < (l0.length : Int) := of_decide_eq_true (by first | (with_reducible assumption) | assumption)
                              obtain ⟨ad127, A127_1, c127_1, e127, hx127_0, hx127_1, hl127_1, hi127_1⟩ := at_T42 HR0.out x3_1 p127 q127
                              cases e127
                              have HR127_1 := Aside0.mk hi127_1
                              have HC127_1 := Aside0.mk hl127_1
                              clear hi127_1 hl127_1
                              replace p127 := eq_true p127
                              replace q127 := eq_true q127
                              have p128 : 0 ≤ (x3_1 : Int) := of_decide_eq_true (by first | (with_reducible assumption) | assumption)
                              have q128 : x3_1 < (l0.length : Int) := of_decide_eq_true (by first | (with_reducible assumption) | assumption)
                              obtain ⟨ad128, A128_1, c128_1, e128, hx128_0, hx128_1, hl128_1, hi128_1⟩ := at_T42 HR0.out x3_1 p128 q128
                              obtain rfl : ad127 = ad128 := (by injection e128)
                              have HR128_1 := Aside0.mk hi128_1
                              have HC128_1 := Aside0.mk hl128_1
                              clear hi128_1 hl128_1
                              replace p128 := eq_true p128
                              replace q128 := eq_true q128
                              have ea_ := Option.some.inj (hx127_1.symm.trans hx128_1)
                              injection ea_ with ea_ en_ ec_
                              subst ea_
                              subst ec_
                              clear en_
                              have p129 : 0 ≤ (x4_3 : Int) := of_decide_eq_true (by first | (with_reducible assumption) | assumption)
                              have q129 : x4_3 < (((rd_T42 l0 x3_1).f1).length : Int) := of_decide_eq_true (by first | (with_reducible assumption) | assumption)
                              obtain ⟨ad129, e129, hx129_0⟩ := Kd.at_int HR128_1.out x4_3 p129 q129
                              cases e129
                              replace p129 := eq_true p129
                              replace q129 := eq_true q129
                              go_wp2
                              repeat (go_quiet (fail); try go_wp2)
                              go_ret
                              exact ⟨by first | rfl | (simp; done) | (simp [*]; done), by repeat (first | exact Drawn0.refl _ | apply Drawn0.step)⟩
                            · rw [if_neg c18] at H
                              have c18b0 : decide (2147483647 < (rd ((rd_T42 l0 x3_1).f1) x4_3)) = false := decide_eq_false c18
                              clear c18
                              by_cases c19 : x4_3 > 0
                              · rw [if_pos c19] at H
                                have c19b0 : decide (0 < x4_3) = true := decide_eq_true c19
                                clear c19
                                obtain ⟨ji20, hji20⟩ : ∃ j_ : Int, (wrap64 (x4_3 - 1)) = j_ := ⟨_, rfl⟩
                                replace H : (if 0 ≤ (ji20) then (if (ji20) < (((rd_T42 l0 x3_1).f1).length : Int) then (if (rd ((rd_T42 l0 x3_1).f1) x4_3) ≤ (rd ((rd_T42 l0 x3_1).f1) (ji20)) then (some false) else (tremaref14_May.l1 k3 l0 x3_1 (wrap64 (x4_3 + 1)))) else (none)) else (none)) = some r := by first | (rw [hji20] at H; exact H) | (simp only [hji20] at H ⊢; exact H)
                                have hji20w : (IntKind.i64.wrap (x4_3 - 1)) = ji20 := (i64_w _).trans hji20
                                by_cases c21 : 0 ≤ (ji20)
                                · rw [if_pos c21] at H
                                  have c21b0 : decide (0 ≤ (ji20)) = true := decide_eq_true c21
                                  clear c21
                                  by_cases c22 : (ji20) < (((rd_T42 l0 x3_1).f1).length : Int)
                                  · rw [if_pos c22] at H
                                    have c22b0 : decide ((ji20) < (((rd_T42 l0 x3_1).f1).length : Int)) = true := decide_eq_true c22
                                    clear c22
                                    by_cases c23 : (rd ((rd_T42 l0 x3_1).f1) x4_3) ≤ (rd ((rd_T42 l0 x3_1).f1) (ji20))
                                    · rw [if_pos c23] at H
                                      have c23b0 : decide ((rd ((rd_T42 l0 x3_1).f1) x4_3) ≤ (rd ((rd_T42 l0 x3_1).f1) (ji20))) = true := decide_eq_true c23
                                      clear c23
                                      obtain rfl := Option.some.inj H
                                      have p127 : 0 ≤ (x3_1 : Int) := of_decide_eq_true (by first | (with_reducible assumption) | assumption)
                                      have q127 : x3_1 < (l0.length : Int) := of_decide_eq_true (by first | (with_reducible assumption) | assumption)
                                      obtain ⟨ad127, A127_1, c127_1, e127, hx127_0, hx127_1, hl127_1, hi127_1⟩ := at_T42 HR0.out x3_1 p127 q127
                                      cases e127
                                      have HR127_1 := Aside0.mk hi127_1
                                      have HC127_1 := Aside0.mk hl127_1
                                      clear hi127_1 hl127_1
                                      replace p127 := eq_true p127
                                      replace q127 := eq_true q127
                                      have p128 : 0 ≤ (x3_1 : Int) := of_decide_eq_true (by first | (with_reducible assumption) | assumption)
                                      have q128 : x3_1 < (l0.length : Int) := of_decide_eq_true (by first | (with_reducible assumption) | assumption)
                                      obtain ⟨ad128, A128_1, c128_1, e128, hx128_0, hx128_1, hl128_1, hi128_1⟩ := at_T42 HR0.out x3_1 p128 q128
                                      obtain rfl : ad127 = ad128 := (by injection e128)
                                      have HR128_1 := Aside0.mk hi128_1
                                      have HC128_1 := Aside0.mk hl128_1
                                      clear hi128_1 hl128_1
                                      replace p128 := eq_true p128
                                      replace q128 := eq_true q128
                                      have ea_ := Option.some.inj (hx127_1.symm.trans hx128_1)
                                      injection ea_ with ea_ en_ ec_
                                      subst ea_
                                      subst ec_
                                      clear en_
                                      have p129 : 0 ≤ (x4_3 : Int) := of_decide_eq_true (by first | (with_reducible assumption) | assumption)
                                      have q129 : x4_3 < (((rd_T42 l0 x3_1).f1).length : Int) := of_decide_eq_true (by first | (with_reducible assumption) | assumption)
                                      obtain ⟨ad129, e129, hx129_0⟩ := Kd.at_int HR128_1.out x4_3 p129 q129
                                      cases e129
                                      replace p129 := eq_true p129
                                      replace q129 := eq_true q129
                                      have p130 : 0 ≤ (x3_1 : Int) := of_decide_eq_true (by first | (with_reducible assumption) | assumption)
                                      have q130 : x3_1 < (l0.length : Int) := of_decide_eq_true (by first | (with_reducible assumption) | assumption)
                                      obtain ⟨ad130, A130_1, c130_1, e130, hx130_0, hx130_1, hl130_1, hi130_1⟩ := at_T42 HR0.out x3_1 p130 q130
                                      obtain rfl : ad127 = ad130 := (by injection e130)
                                      have HR130_1 := Aside0.mk hi130_1
                                      have HC130_1 := Aside0.mk hl130_1
                                      clear hi130_1 hl130_1
                                      replace p130 := eq_true p130
                                      replace q130 := eq_true q130
                                      have ea_ := Option.some.inj (hx127_1.symm.trans hx130_1)
                                      injection ea_ with ea_ en_ ec_
                                      subst ea_
                                      subst ec_
                                      clear en_
                                      have p131 : 0 ≤ ((ji20) : Int) := of_decide_eq_true (by first | (with_reducible assumption) | assumption)
                                      have q131 : (ji20) < (((rd_T42 l0 x3_1).f1).length : Int) := of_decide_eq_true (by first | (with_reducible assumption) | assumption)
                                      obtain ⟨ad131, e131, hx131_0⟩ := Kd.at_int HR130_1.out (ji20) p131 q131
                                      cases e131
                                      replace p131 := eq_true p131
                                      replace q131 := eq_true q131
                                      go_wp2
                                      repeat (go_quiet (fail); try go_wp2)
                                      go_ret
                                      exact ⟨by first | rfl | (simp; done) | (simp only [← hji20] <;> (first | rfl | simp)) | (simp [*]; done), by repeat (first | exact Drawn0.refl _ | apply Drawn0.step)⟩
                                    · rw [if_neg c23] at H
                                      have c23b0 : decide ((rd ((rd_T42 l0 x3_1).f1) x4_3) ≤ (rd ((rd_T42 l0 x3_1).f1) (ji20))) = false := decide_eq_false c23
                                      clear c23
                                      have H' := Aside0.mk H
                                      clear H
                                      have p127 : 0 ≤ (x3_1 : Int) := of_decide_eq_true (by first | (with_reducible assumption) | assumption)
                                      have q127 : x3_1 < (l0.length : Int) := of_decide_eq_true (by first | (with_reducible assumption) | assumption)
                                      obtain ⟨ad127, A127_1, c127_1, e127, hx127_0, hx127_1, hl127_1, hi127_1⟩ := at_T42 HR0.out x3_1 p127 q127
                                      cases e127
                                      have HR127_1 := Aside0.mk hi127_1
                                      have HC127_1 := Aside0.mk hl127_1
                                      clear hi127_1 hl127_1
                                      replace p127 := eq_true p127
                                      replace q127 := eq_true q127
                                      have p128 : 0 ≤ (x3_1 : Int) := of_decide_eq_true (by first | (with_reducible assumption) | assumption)
                                      have q128 : x3_1 < (l0.length : Int) := of_decide_eq_true (by first | (with_reducible assumption) | assumption)
                                      obtain ⟨ad128, A128_1, c128_1, e128, hx128_0, hx128_1, hl128_1, hi128_1⟩ := at_T42 HR0.out x3_1 p128 q128
                                      obtain rfl : ad127 = ad128 := (by injection e128)
                                      have HR128_1 := Aside0.mk hi128_1
                                      have HC128_1 := Aside0.mk hl128_1
                                      clear hi128_1 hl128_1
                                      replace p128 := eq_true p128
                                      replace q128 := eq_true q128
                                      have ea_ := Option.some.inj (hx127_1.symm.trans hx128_1)
                                      injection ea_ with ea_ en_ ec_
                                      subst ea_
                                      subst ec_
                                      clear en_
                                      have p129 : 0 ≤ (x4_3 : Int) := of_decide_eq_true (by first | (with_reducible assumption) | assumption)
                                      have q129 : x4_3 < (((rd_T42 l0 x3_1).f1).length : Int) := of_decide_eq_true (by first | (with_reducible assumption) | assumption)
                                      obtain ⟨ad129, e129, hx129_0⟩ := Kd.at_int HR128_1.out x4_3 p129 q129
                                      cases e129
                                      replace p129 := eq_true p129
                                      replace q129 := eq_true q129
                                      have p130 : 0 ≤ (x3_1 : Int) := of_decide_eq_true (by first | (with_reducible assumption) | assumption)
                                      have q130 : x3_1 < (l0.length : Int) := of_decide_eq_true (by first | (with_reducible assumption) | assumption)
                                      obtain ⟨ad130, A130_1, c130_1, e130, hx130_0, hx130_1, hl130_1, hi130_1⟩ := at_T42 HR0.out x3_1 p130 q130
                                      obtain rfl : ad127 = ad130 := (by injection e130)
                                      have HR130_1 := Aside0.mk hi130_1
                                      have HC130_1 := Aside0.mk hl130_1
                                      clear hi130_1 hl130_1
                                      replace p130 := eq_true p130
                                      replace q130 := eq_true q130
                                      have ea_ := Option.some.inj (hx127_1.symm.trans hx130_1)
                                      injection ea_ with ea_ en_ ec_
                                      subst ea_
                                      subst ec_
                                      clear en_
                                      have p131 : 0 ≤ ((ji20) : Int) := of_decide_eq_true (by first | (with_reducible assumption) | assumption)
                                      have q131 : (ji20) < (((rd_T42 l0 x3_1).f1).length : Int) := of_decide_eq_true (by first | (with_reducible assumption) | assumption)
                                      obtain ⟨ad131, e131, hx131_0⟩ := Kd.at_int HR130_1.out (ji20) p131 q131
                                      cases e131
                                      replace p131 := eq_true p131
                                      replace q131 := eq_true q131
                                      go_wp2
                                      repeat (go_quiet (fail); try go_wp2)
                                      go_roundg k3
                                      case measure => have := HK1.out; have := HJ2.out; have := HK3.out; omega
                                      case rel => exact ⟨(wrap64 (x4_3 + 1)), (by first | rfl | (simp; done) | (simp [*]; done)), H', ⟨by have := HK1.out; have := HJ2.out; have := HK3.out; omega⟩, by repeat (first | exact Drawn0.refl _ | apply Drawn0.step)⟩
                                  · rw [if_neg c22] at H
                                    exact absurd H (by simp)
                                · rw [if_neg c21] at H
                                  exact absurd H (by simp)
                              · rw [if_neg c19] at H
                                have c19b0 : decide (0 < x4_3) = false := decide_eq_false c19
                                clear c19
                                have H' := Aside0.mk H
                                clear H
                                have p127 : 0 ≤ (x3_1 : Int) := of_decide_eq_true (by first | (with_reducible assumption) | assumption)
                                have q127 : x3_1 < (l0.length : Int) := of_decide_eq_true (by first | (with_reducible assumption) | assumption)
                                obtain ⟨ad127, A127_1, c127_1, e127, hx127_0, hx127_1, hl127_1, hi127_1⟩ := at_T42 HR0.out x3_1 p127 q127
                                cases e127
                                have HR127_1 := Aside0.mk hi127_1
                                have HC127_1 := Aside0.mk hl127_1
                                clear hi127_1 hl127_1
                                replace p127 := eq_true p127
                                replace q127 := eq_true q127
                                have p128 : 0 ≤ (x3_1 : Int) := of_decide_eq_true (by first | (with_reducible assumption) | assumption)
                                have q128 : x3_1 < (l0.length : Int) := of_decide_eq_true (by first | (with_reducible assumption) | assumption)
                                obtain ⟨ad128, A128_1, c128_1, e128, hx128_0, hx128_1, hl128_1, hi128_1⟩ := at_T42 HR0.out x3_1 p128 q128
                                obtain rfl : ad127 = ad128 := (by injection e128)
                                have HR128_1 := Aside0.mk hi128_1
                                have HC128_1 := Aside0.mk hl128_1
                                clear hi128_1 hl128_1
                                replace p128 := eq_true p128
                                replace q128 := eq_true q128
                                have ea_ := Option.some.inj (hx127_1.symm.trans hx128_1)
                                injection ea_ with ea_ en_ ec_
                                subst ea_
                                subst ec_
                                clear en_
                                have p129 : 0 ≤ (x4_3 : Int) := of_decide_eq_true (by first | (with_reducible assumption) | assumption)
                                have q129 : x4_3 < (((rd_T42 l0 x3_1).f1).length : Int) := of_decide_eq_true (by first | (with_reducible assumption) | assumption)
                                obtain ⟨ad129, e129, hx129_0⟩ := Kd.at_int HR128_1.out x4_3 p129 q129
                                cases e129
                                replace p129 := eq_true p129
                                replace q129 := eq_true q129
                                go_wp2
                                repeat (go_quiet (fail); try go_wp2)
                                go_roundg k3
                                case measure => have := HK1.out; have := HJ2.out; have := HK3.out; omega
                                case rel => exact ⟨(wrap64 (x4_3 + 1)), (by first | rfl | (simp; done) | (simp [*]; done)), H', ⟨by have := HK1.out; have := HJ2.out; have := HK3.out; omega⟩, by repeat (first | exact Drawn0.refl _ | apply Drawn0.step)⟩
                        · rw [if_neg c16] at H
                          exact absurd H (by simp)
                      · rw [if_neg c15] at H
                        have c15b0 : decide (x4_3 < (((rd_T42 l0 x3_1).f1).length : Int)) = false := decide_eq_false c15
                        clear c15
                        have H' := Aside0.mk H
                        clear H
                        have p127 : 0 ≤ (x3_1 : Int) := of_decide_eq_true (by first | (with_reducible assumption) | assumption)
                        have q127 : x3_1 < (l0.length : Int) := of_decide_eq_true (by first | (with_reducible assumption) | assumption)
                        obtain ⟨ad127, A127_1, c127_1, e127, hx127_0, hx127_1, hl127_1, hi127_1⟩ := at_T42 HR0.out x3_1 p127 q127
                        cases e127
                        have HR127_1 := Aside0.mk hi127_1
                        have HC127_1 := Aside0.mk hl127_1
                        clear hi127_1 hl127_1
                        replace p127 := eq_true p127
                        replace q127 := eq_true q127
                        go_wp2
                        repeat (go_quiet (fail); try go_wp2)
                        go_roundg k3
                        case measure => have := HK1.out; have := HJ2.out; have := HK3.out; omega
                        case rel => exact ⟨(wrap64 (x3_1 + 1)), (by first | rfl | (simp; done) | (simp [*]; done)), H', ⟨by have := HK1.out; have := HJ2.out; have := HK3.out; omega⟩, by repeat (first | exact Drawn0.refl _ | apply Drawn0.step)⟩
                    · rw [if_neg c14] at H
                      exact absurd H (by simp)
                  · rw [if_neg c13] at H
                    exact absurd H (by simp)
      · rw [if_neg c2] at H
        have c2b0 : decide (x3_1 < (l0.length : Int)) = false := decide_eq_false c2
        clear c2
        obtain rfl := Option.some.inj H
        go_wp2
        repeat (go_quiet (fail); try go_wp2)
        go_ret
        exact ⟨by first | rfl | (simp; done) | (simp [*]; done), by repeat (first | exact Drawn0.refl _ | apply Drawn0.step)⟩

end Go.Proofs.Ytpebemljgeammab.PPostingKeeps
