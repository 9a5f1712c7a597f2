/-
  Several texts of this claim in one: what its law's proof uses.
-/
import Derived.Test.YthffpkdadffinaaDoorMWJ2
import Derived.Test.YthffpkdadffinaaDoorMWJ6
import Derived.Test.YthffpkdadffinaaDoorMWJ4
namespace Go.Proofs.YthffpkdadffinaaDoor.X
open Go.RowKit YthffpkdadffinaaDoorW.PrintWords YthffpkdadffinaaDoorW.PrintLast YthffpkdadffinaaDoorW.PrintMore
attribute [local go_sem] max2_int min2_int max_two min_two max_three min_three max_four min_four   
set_option linter.unusedVariables false
set_option linter.unusedSimpArgs false
mutual
def tremaref03_Normal.l0 : Nat → List Int → List Int → Int → Int → Option (List Int)
 | 0, _, _, _, _ => none
 | k + 1, x0, x3, x4, x5 => if x5 < (x0.length : Int) then (if 0 ≤ x5 then ((tremaref02_Decompose.f k (rd x0 x5)).bind fun t227 => (tremaref03_Normal.l1 k x0 x3 x4 x5 t227 0)) else (none)) else (some x3)
def tremaref03_Normal.l1 : Nat → List Int → List Int → Int → Int → List Int → Int → Option (List Int)
 | 0, _, _, _, _, _, _ => none
 | k + 1, x0, x3, x4, x5, x6, x7 => if x7 < (x6.length : Int) then (if 0 ≤ x7 then ((tremaref02_Class.f k (rd x6 x7)).bind fun t231 => (if x3.length < 35184372088832 then ((some (x3 ++ [rd x6 x7] : List Int)).bind fun y233 => (if t231 = 0 then (tremaref03_Normal.l1 k x0 y233 (y233.length : Int) x5 x6 (wrap64 (x7 + 1))) else (tremaref03_Normal.l2 k x0 y233 x4 x5 x6 x7 t231 x4 (wrap64 ((y233.length : Int) - 1))))) else (none))) else (none)) else (tremaref03_Normal.l0 k x0 x3 x4 (wrap64 (x5 + 1)))
def tremaref03_Normal.l2 : Nat → List Int → List Int → Int → Int → List Int → Int → Int → Int → Int → Option (List Int)
 | 0, _, _, _, _, _, _, _, _, _ => none
 | k + 1, x0, x3, x4, x5, x6, x7, x8, x9, x10 => if x9 < x10 then (if 0 ≤ (wrap64 (Int.tdiv (wrap64 (x9 + x10)) 2)) then (if (wrap64 (Int.tdiv (wrap64 (x9 + x10)) 2)) < (x3.length : Int) then ((tremaref02_Class.f k (rd x3 (wrap64 (Int.tdiv (wrap64 (x9 + x10)) 2)))).bind fun t237 => (if t237 > x8 then (tremaref03_Normal.l2 k x0 x3 x4 x5 x6 x7 x8 x9 (wrap64 (Int.tdiv (wrap64 (x9 + x10)) 2))) else (tremaref03_Normal.l2 k x0 x3 x4 x5 x6 x7 x8 (wrap64 ((wrap64 (Int.tdiv (wrap64 (x9 + x10)) 2)) + 1)) x10))) else (none)) else (none)) else (tremaref03_Normal.l3 k x0 x3 x4 x5 x6 x7 x9 (wrap64 ((x3.length : Int) - 1)))
def tremaref03_Normal.l3 : Nat → List Int → List Int → Int → Int → List Int → Int → Int → Int → Option (List Int)
 | 0, _, _, _, _, _, _, _, _ => none
 | k + 1, x0, x3, x4, x5, x6, x7, x9, x12 => if x12 > x9 then (if 0 ≤ (wrap64 (x12 - 1)) then (if (wrap64 (x12 - 1)) < (x3.length : Int) then (if 0 ≤ x12 then (if x12 < (x3.length : Int) then (tremaref03_Normal.l3 k x0 (x3.set (x12 : Int).toNat (rd x3 (wrap64 (x12 - 1)))) x4 x5 x6 x7 x9 (wrap64 (x12 - 1))) else (none)) else (none)) else (none)) else (none)) else (if 0 ≤ x7 then (if x7 < (x6.length : Int) then (if 0 ≤ x9 then (if x9 < (x3.length : Int) then (tremaref03_Normal.l1 k x0 (x3.set (x9 : Int).toNat (rd x6 x7)) x4 x5 x6 (wrap64 (x7 + 1))) else (none)) else (none)) else (none)) else (none))
end
def tremaref03_Normal.f (k : Nat) (l0 : List Int) : Option (List Int) := tremaref03_Normal.l0 k l0 ([] : List Int) 0 0
theorem tremaref03_Normal.mono_l : ∀ k, (∀ y0 y1 y2 y3, LeO (tremaref03_Normal.l0 k y0 y1 y2 y3) (tremaref03_Normal.l0 (k + 1) y0 y1 y2 y3)) ∧ (∀ y0 y1 y2 y3 y4 y5, LeO (tremaref03_Normal.l1 k y0 y1 y2 y3 y4 y5) (tremaref03_Normal.l1 (k + 1) y0 y1 y2 y3 y4 y5)) ∧ (∀ y0 y1 y2 y3 y4 y5 y6 y7 y8, LeO (tremaref03_Normal.l2 k y0 y1 y2 y3 y4 y5 y6 y7 y8) (tremaref03_Normal.l2 (k + 1) y0 y1 y2 y3 y4 y5 y6 y7 y8)) ∧ (∀ y0 y1 y2 y3 y4 y5 y6 y7, LeO (tremaref03_Normal.l3 k y0 y1 y2 y3 y4 y5 y6 y7) (tremaref03_Normal.l3 (k + 1) y0 y1 y2 y3 y4 y5 y6 y7))
 | 0 => ⟨fun _ _ _ _ r h => by simp [tremaref03_Normal.l0] at h, fun _ _ _ _ _ _ r h => by simp [tremaref03_Normal.l1] at h, fun _ _ _ _ _ _ _ _ _ r h => by simp [tremaref03_Normal.l2] at h, fun _ _ _ _ _ _ _ _ r h => by simp [tremaref03_Normal.l3] at h⟩
 | k + 1 => by
  obtain ⟨ih0, ih1, ih2, ih3⟩ := tremaref03_Normal.mono_l k; refine ⟨?_, ?_, ?_, ?_⟩
  ·intro y0 y1 y2 y3; unfold tremaref03_Normal.l0; repeat' first | (with_reducible exact ih0 _ _ _ _) | (with_reducible exact ih1 _ _ _ _ _ _) | (with_reducible exact ih2 _ _ _ _ _ _ _ _ _) | (with_reducible exact ih3 _ _ _ _ _ _ _ _) | (with_reducible exact tremaref02_Class.mono _ _) | (with_reducible exact tremaref02_Decompose.mono _ _) | (with_reducible exact LeO.refl _) | (with_reducible exact LeO.none _) | (with_reducible refine LeO.ite ?_ ?_) | (with_reducible refine LeO.bind ?_ (fun _ => ?_)) | exact ih0 _ _ _ _ | exact ih1 _ _ _ _ _ _ | exact ih2 _ _ _ _ _ _ _ _ _ | exact ih3 _ _ _ _ _ _ _ _ | exact tremaref02_Class.mono _ _ | exact tremaref02_Decompose.mono _ _ | exact LeO.none _ | refine LeO.ite ?_ ?_ | refine LeO.bind ?_ (fun _ => ?_)
  ·intro y0 y1 y2 y3 y4 y5; unfold tremaref03_Normal.l1; repeat' first | (with_reducible exact ih0 _ _ _ _) | (with_reducible exact ih1 _ _ _ _ _ _) | (with_reducible exact ih2 _ _ _ _ _ _ _ _ _) | (with_reducible exact ih3 _ _ _ _ _ _ _ _) | (with_reducible exact tremaref02_Class.mono _ _) | (with_reducible exact tremaref02_Decompose.mono _ _) | (with_reducible exact LeO.refl _) | (with_reducible exact LeO.none _) | (with_reducible refine LeO.ite ?_ ?_) | (with_reducible refine LeO.bind ?_ (fun _ => ?_)) | exact ih0 _ _ _ _ | exact ih1 _ _ _ _ _ _ | exact ih2 _ _ _ _ _ _ _ _ _ | exact ih3 _ _ _ _ _ _ _ _ | exact tremaref02_Class.mono _ _ | exact tremaref02_Decompose.mono _ _ | exact LeO.none _ | refine LeO.ite ?_ ?_ | refine LeO.bind ?_ (fun _ => ?_)
  ·intro y0 y1 y2 y3 y4 y5 y6 y7 y8; unfold tremaref03_Normal.l2; repeat' first | (with_reducible exact ih0 _ _ _ _) | (with_reducible exact ih1 _ _ _ _ _ _) | (with_reducible exact ih2 _ _ _ _ _ _ _ _ _) | (with_reducible exact ih3 _ _ _ _ _ _ _ _) | (with_reducible exact tremaref02_Class.mono _ _) | (with_reducible exact tremaref02_Decompose.mono _ _) | (with_reducible exact LeO.refl _) | (with_reducible exact LeO.none _) | (with_reducible refine LeO.ite ?_ ?_) | (with_reducible refine LeO.bind ?_ (fun _ => ?_)) | exact ih0 _ _ _ _ | exact ih1 _ _ _ _ _ _ | exact ih2 _ _ _ _ _ _ _ _ _ | exact ih3 _ _ _ _ _ _ _ _ | exact tremaref02_Class.mono _ _ | exact tremaref02_Decompose.mono _ _ | exact LeO.none _ | refine LeO.ite ?_ ?_ | refine LeO.bind ?_ (fun _ => ?_)
  ·intro y0 y1 y2 y3 y4 y5 y6 y7; unfold tremaref03_Normal.l3; repeat' first | (with_reducible exact ih0 _ _ _ _) | (with_reducible exact ih1 _ _ _ _ _ _) | (with_reducible exact ih2 _ _ _ _ _ _ _ _ _) | (with_reducible exact ih3 _ _ _ _ _ _ _ _) | (with_reducible exact tremaref02_Class.mono _ _) | (with_reducible exact tremaref02_Decompose.mono _ _) | (with_reducible exact LeO.refl _) | (with_reducible exact LeO.none _) | (with_reducible refine LeO.ite ?_ ?_) | (with_reducible refine LeO.bind ?_ (fun _ => ?_)) | exact ih0 _ _ _ _ | exact ih1 _ _ _ _ _ _ | exact ih2 _ _ _ _ _ _ _ _ _ | exact ih3 _ _ _ _ _ _ _ _ | exact tremaref02_Class.mono _ _ | exact tremaref02_Decompose.mono _ _ | exact LeO.none _ | refine LeO.ite ?_ ?_ | refine LeO.bind ?_ (fun _ => ?_)
theorem tremaref03_Normal.mono : ∀ a0 k, LeO (tremaref03_Normal.f k a0) (tremaref03_Normal.f (k + 1) a0) := by
 intro a0 k; obtain ⟨ih0, ih1, ih2, ih3⟩ := tremaref03_Normal.mono_l k; unfold tremaref03_Normal.f; repeat' first | (with_reducible exact ih0 _ _ _ _) | (with_reducible exact ih1 _ _ _ _ _ _) | (with_reducible exact ih2 _ _ _ _ _ _ _ _ _) | (with_reducible exact ih3 _ _ _ _ _ _ _ _) | (with_reducible exact tremaref02_Class.mono _ _) | (with_reducible exact tremaref02_Decompose.mono _ _) | (with_reducible exact LeO.refl _) | (with_reducible exact LeO.none _) | (with_reducible refine LeO.ite ?_ ?_) | (with_reducible refine LeO.bind ?_ (fun _ => ?_)) | exact ih0 _ _ _ _ | exact ih1 _ _ _ _ _ _ | exact ih2 _ _ _ _ _ _ _ _ _ | exact ih3 _ _ _ _ _ _ _ _ | exact tremaref02_Class.mono _ _ | exact tremaref02_Decompose.mono _ _ | exact LeO.none _ | refine LeO.ite ?_ ?_ | refine LeO.bind ?_ (fun _ => ?_)
set_option maxHeartbeats 8000000 in
set_option maxRecDepth 100000 in
theorem tremaref03_Normal.calls (k : Nat) (A0 : Option Addr) (c0 : Nat) (l0 : List Int) (r : List Int) (w : World) (hr0 : Kd.C (Kd.int .i32) w A0 l0.length l0) (hc0 : l0.length ≤ c0) (h : tremaref03_Normal.f k l0 = some r) :
  Calls Tryd.prog 74 #[.slice A0 l0.length c0] w fun e w' => ∃ v0_ : Value, e = .returned (v0_) ∧ Kd.R (Kd.int .i32) 21 w' w.heap.size (fun _ => True) v0_ r ∧ Below w.heap.size w w' := by
 have HR0 := Aside0.mk hr0; have HC0 := Aside0.mk hc0; clear hr0 hc0; have HB := Aside0.mk (Below.refl w.heap.size w); have H : (tremaref03_Normal.l0 k l0 ([] : List Int) 0 0) = some r := h; clear h; have H' := Aside0.mk H; clear H; go_enter Tryd.func74, Tryd.ntmps74; go_wp2; go_loopg [3, 4, 5] k (fun kq v3 v4 v5 w' => ∃ (x3_1 : List Int) (x4_1 : Int) (x5_1 : Int), v4 = .int .i64 x4_1 ∧ v5 = .int .i64 x5_1 ∧ Aside0 (tremaref03_Normal.l0 kq l0 x3_1 x4_1 x5_1 = some r) ∧ Aside0 (kq ≤ k) ∧ Aside0 (Kd.R (Kd.int .i32) 21 w' w.heap.size (fun _ => True) v3 x3_1) ∧ Aside0 (Below w.heap.size w w'))
 case atStart => exact ⟨(([] : List Int)), (0), (0), (by first | rfl | (simp; done) | (simp [*]; done)), (by first | rfl | (simp; done) | (simp [*]; done)), H', ⟨Nat.le_refl _⟩, ⟨by first | exact Kd.R_nil _ _ _ _ _ | exact Kd.N_nil _ _ _ _ _ | exact Kd.V_nil _ _ _ _ _ | exact Kd.Q_nil _ _ _ _ _ | exact Kd.S_nil _ _ _ _ _⟩, ⟨by repeat (first | (with_reducible first | exact HB.out | apply below_alloc | apply pw_below_drewN | apply below_drew1) | exact HB.out)⟩⟩
 case round =>
  clear H'; obtain ⟨x3_1, x4_1, x5_1, rfl, rfl, HA, HK1, HO_3, HB⟩ := hrel
  cases gk with
  | zero => exact absurd HA.out (by simp [tremaref03_Normal.l0])
  | succ k1 =>
   have H := HA.out; clear HA; simp only [tremaref03_Normal.l0] at H; by_cases c2 : x5_1 < (l0.length : Int)
   ·rw [if_pos c2] at H; have c2b0 : decide (x5_1 < (l0.length : Int)) = true := decide_eq_true c2; clear c2; by_cases c3 : 0 ≤ x5_1
    ·rw [if_pos c3] at H; have c3b0 : decide (0 ≤ x5_1) = true := decide_eq_true c3; clear c3; replace H := Option.bind_eq_some_iff.mp H; obtain ⟨t227, A40, H⟩ := H; (try dsimp only at H); have A4 := Aside0.mk A40; clear A40; have H' := Aside0.mk H; clear H; have p226 : 0 ≤ (x5_1 : Int) := of_decide_eq_true (by first | (with_reducible assumption) | assumption); have q226 : x5_1 < (l0.length : Int) := of_decide_eq_true (by first | (with_reducible assumption) | assumption); obtain ⟨ad226, e226, hx226_0⟩ := Kd.at_int HR0.out x5_1 p226 q226; cases e226; replace hx226_0 := (HB.out.cell (World.block_lt_of_cell? w _ hx226_0)).trans hx226_0; replace p226 := eq_true p226; replace q226 := eq_true q226; go_wp2_with (first | ((with_reducible refine gate_callee (f := 77) rfl ?_); refine goesL_ (some 23) rfl rfl Tryd.func77 (by kernel_rfl) rfl #[.int .i32 (rd l0 x5_1)] rfl (by (try simp only [List.map_toArray, List.map_cons, List.map_nil]); first | done | rfl | (simp only [List.length_drop, List.length_take]; rfl)) ?_; (with_reducible refine (tremaref02_Decompose.calls k1 (rd l0 x5_1) t227 _ A4.out).mono ?_); rintro e w5 ⟨v228, rfl, ho0, hb⟩; refine ⟨_, rfl, ?_⟩; have n0_ := Aside0.mk (Kd.R_elder' (by (with_reducible repeat (first | apply Kd.R_alloc | apply Kd.R_drewN | apply Kd.R_drew)); exact HO_3.out) (Kd.R_base ho0) hb); have n1_ := Aside0.mk (Kd.R_lower (Kd.R_new' ho0 (Kd.R_lt (by (with_reducible repeat (first | apply Kd.R_alloc | apply Kd.R_drewN | apply Kd.R_drew)); exact HO_3.out))) (below_size (by repeat (first | (with_reducible first | exact HB.out | apply below_alloc | apply pw_below_drewN | apply below_drew1) | exact HB.out)))); have n2_ := Aside0.mk (below_step (by repeat (first | (with_reducible first | exact HB.out | apply below_alloc | apply pw_below_drewN | apply below_drew1) | exact HB.out)) hb); clear HO_3; clear HB; have HO_3 := n0_; have HO229 := n1_; have HB := n2_; clear n0_ n1_ n2_; (try clear hb); (try clear hb2); (try clear hk); (try clear hi); (try clear ho0))); go_loopg [3, 4, 7] k1 (fun kq v3 v4 v7 w' => ∃ (x3_2 : List Int) (x4_2 : Int) (x6_2 : List Int) (x7_2 : Int), v4 = .int .i64 x4_2 ∧ v7 = .int .i64 x7_2 ∧ Aside0 (tremaref03_Normal.l1 kq l0 x3_2 x4_2 x5_1 x6_2 x7_2 = some r) ∧ Aside0 (kq ≤ k1) ∧ Aside0 (Kd.R (Kd.int .i32) 21 w' w.heap.size (fun k_ => some k_ ≠ (v228 : Value).ownBlock) v3 x3_2) ∧ Aside0 (Kd.R (Kd.int .i32) 21 w' w.heap.size (fun k_ => some k_ ≠ (v3 : Value).ownBlock) v228 x6_2) ∧ Aside0 (Below w.heap.size w w'))
     case atStart => exact ⟨(x3_1), (x4_1), (t227), (0), (by first | rfl | (simp; done) | (simp [*]; done)), (by first | rfl | (simp; done) | (simp [*]; done)), H', ⟨Nat.le_refl _⟩, ⟨by (with_reducible repeat (first | apply Kd.R_alloc | apply Kd.R_drewN | apply Kd.R_drew)); exact Kd.R_mono HO_3.out (fun _ hk => hk.2)⟩, ⟨by (with_reducible repeat (first | apply Kd.R_alloc | apply Kd.R_drewN | apply Kd.R_drew)); exact Kd.R_mono HO229.out (fun _ hk => hk.2)⟩, ⟨by repeat (first | (with_reducible first | exact HB.out | apply below_alloc | apply pw_below_drewN | apply below_drew1) | exact HB.out)⟩⟩
     case round =>
      clear H'; (try clear c2); (try clear c2b0); (try clear p2); (try clear q2); (try clear hx2); (try clear c3); (try clear c3b0); (try clear hx226_0); (try clear p226); (try clear q226); obtain ⟨x3_2, x4_2, x6_2, x7_2, rfl, rfl, HA, HK2, HO_3, HO_6, HB⟩ := hrel
      cases gk with
      | zero => exact absurd HA.out (by simp [tremaref03_Normal.l1])
      | succ k2 =>
       have H := HA.out; clear HA; simp only [tremaref03_Normal.l1] at H; by_cases c6 : x7_2 < (x6_2.length : Int)
       ·rw [if_pos c6] at H; have c6b0 : decide (x7_2 < (x6_2.length : Int)) = true := decide_eq_true c6; clear c6; by_cases c7 : 0 ≤ x7_2
        ·rw [if_pos c7] at H; have c7b0 : decide (0 ≤ x7_2) = true := decide_eq_true c7; clear c7; replace H := Option.bind_eq_some_iff.mp H; obtain ⟨t231, A80, H⟩ := H; (try dsimp only at H); have A8 := Aside0.mk A80; clear A80; by_cases c9 : x3_2.length < 35184372088832
         ·rw [if_pos c9] at H; have LMc9 := Aside0.mk c9; clear c9; obtain ⟨y233, hy233⟩ : ∃ y_ : List Int, y_ = (x3_2 ++ [rd x6_2 x7_2]) := ⟨_, rfl⟩; (replace H : (if t231 = 0 then (tremaref03_Normal.l1 k2 l0 y233 (y233.length : Int) x5_1 x6_2 (wrap64 (x7_2 + 1))) else (tremaref03_Normal.l2 k2 l0 y233 x4_2 x5_1 x6_2 x7_2 t231 x4_2 (wrap64 ((y233.length : Int) - 1)))) = some r := by first | (rw [hy233]; with_reducible exact H) | (have H2_ := (Option.bind_some _ _).symm.trans H; rw [hy233]; with_reducible exact H2_) | (have H2_ := (Option.bind_some _ _).symm.trans H; with_reducible exact H2_) | with_reducible exact H | (rw [hy233]; exact H) | exact H); have Ny233 := Aside0.mk hy233; clear hy233; by_cases c10 : t231 = 0
          ·rw [if_pos c10] at H; have c10b0 : (t231 == 0) = true := beq_iff_eq.mpr c10; have c10b1 : (t231 != 0) = false := bne_eq_false_iff_eq.mpr c10; clear c10; have H' := Aside0.mk H; clear H; obtain ⟨Ao11, co11, eo11⟩ := Kd.R_slice HO_6.out; subst eo11; have p230 : 0 ≤ (x7_2 : Int) := of_decide_eq_true (by first | (with_reducible assumption) | assumption); have q230 : x7_2 < (x6_2.length : Int) := of_decide_eq_true (by first | (with_reducible assumption) | assumption); obtain ⟨ad230, e230, hx230_0⟩ := Kd.at_int (Kd.R_reads' HO_6.out).2.2 x7_2 p230 q230; cases e230; replace p230 := eq_true p230; replace q230 := eq_true q230; go_wp2_with (first | ((with_reducible refine gate_callee (f := 78) rfl ?_); refine goesL_ (some 34) rfl rfl Tryd.func78 (by kernel_rfl) rfl #[.int .i32 (rd x6_2 x7_2)] rfl (by (try simp only [List.map_toArray, List.map_cons, List.map_nil]); first | done | rfl | (simp only [List.length_drop, List.length_take]; rfl)) ?_; (with_reducible refine (tremaref02_Class.calls k2 (rd x6_2 x7_2) t231 _ A8.out).mono ?_); rintro e w' ⟨rfl, ⟨nd, rfl⟩⟩; refine ⟨_, rfl, ?_⟩; have p232 : 0 ≤ (x7_2 : Int) := of_decide_eq_true (by first | (with_reducible assumption) | assumption); have q232 : x7_2 < (x6_2.length : Int) := of_decide_eq_true (by first | (with_reducible assumption) | assumption); obtain ⟨ad232, e232, hx232_0⟩ := Kd.at_int (Kd.R_reads' HO_6.out).2.2 x7_2 p232 q232; obtain rfl : ad230 = ad232 := (by injection e232); replace p232 := eq_true p232; replace q232 := eq_true q232) | ((with_reducible refine gate_builtin (b := .append) (xs := #[.tmp 35, .tmp 40]) rfl ?_); at_builtin; refine Kd.R_append (Kd.int .i32) (w0 := w) w.heap.size rfl (.tmp 35) (.tmp 40) 42 21 (.int .i32 0) 4 rfl Tryd.underlying42 info21 rfl (by decide) (by omega) u3 x3_2 (rd x6_2 x7_2) [.int .i32 (rd x6_2 x7_2)] (fun k_ => some k_ ≠ (.slice (some ad230) x6_2.length co11 : Value).ownBlock) (fun _ => False) rfl rfl ?aP (fun _ hk => hk.elim) ?aF ?aO ?aB ?aS ?aL ?_; (case aP => exact rfl); (case aB => exact (by repeat (first | (with_reducible first | exact HB.out | apply below_alloc | apply pw_below_drewN | apply below_drew1) | exact HB.out))); (case aF => exact (fun k_ hk => Kd.fresh' (Kd.R_lt (by (with_reducible repeat (first | apply Kd.R_alloc | apply Kd.R_drewN | apply Kd.R_drew)); exact HO_6.out)) k_ hk)); (case aO => exact (by (with_reducible repeat (first | apply Kd.R_alloc | apply Kd.R_drewN | apply Kd.R_drew)); exact HO_3.out)); (case aS => exact (below_size (by repeat (first | (with_reducible first | exact HB.out | apply below_alloc | apply pw_below_drewN | apply below_drew1) | exact HB.out)))); (case aL => have := LMc9.out; omega); intro v234 w12 ho hb hg hat; rw [← Ny233.out] at ho; have n0_ := Aside0.mk (Kd.R_after (ok := (fun _ => True)) (by (with_reducible repeat (first | apply Kd.R_alloc | apply Kd.R_drewN | apply Kd.R_drew)); exact Kd.R_mono HO_6.out (fun _ hk => ⟨trivial, hk⟩)) hg hat); have n1_ := Aside0.mk (hb); have n2_ := Aside0.mk (ho); clear HO_6; clear HB; clear HO_3; have HO_6 := n0_; have HB := n1_; have HO235 := n2_; clear n0_ n1_ n2_; clear ho hb hg hat; obtain ⟨Ao13, co13, eo13⟩ := Kd.R_slice HO235.out; subst eo13)); go_roundg k2
           case measure => have := HK1.out; have := HK2.out; omega
           case rel => exact ⟨(y233), ((y233.length : Int)), (x6_2), (wrap64 (x7_2 + 1)), (by first | rfl | (simp; done) | (simp [*]; done)), (by first | rfl | (simp; done) | (simp [*]; done)), H', ⟨by have := HK1.out; have := HK2.out; omega⟩, ⟨by (with_reducible repeat (first | apply Kd.R_alloc | apply Kd.R_drewN | apply Kd.R_drew)); exact HO235.out⟩, ⟨by (with_reducible repeat (first | apply Kd.R_alloc | apply Kd.R_drewN | apply Kd.R_drew)); exact Kd.R_mono HO_6.out (fun _ hk => hk.2)⟩, ⟨by repeat (first | (with_reducible first | exact HB.out | apply below_alloc | apply pw_below_drewN | apply below_drew1) | exact HB.out)⟩⟩
          ·rw [if_neg c10] at H; have c10b0 : (t231 == 0) = false := beq_eq_false_iff_ne.mpr c10; have c10b1 : (t231 != 0) = true := bne_iff_ne.mpr c10; have H' := Aside0.mk H; clear H; obtain ⟨Ao14, co14, eo14⟩ := Kd.R_slice HO_6.out; subst eo14; have p230 : 0 ≤ (x7_2 : Int) := of_decide_eq_true (by first | (with_reducible assumption) | assumption); have q230 : x7_2 < (x6_2.length : Int) := of_decide_eq_true (by first | (with_reducible assumption) | assumption); obtain ⟨ad230, e230, hx230_0⟩ := Kd.at_int (Kd.R_reads' HO_6.out).2.2 x7_2 p230 q230; cases e230; replace p230 := eq_true p230; replace q230 := eq_true q230; go_wp2_with (first | ((with_reducible refine gate_callee (f := 78) rfl ?_); refine goesL_ (some 34) rfl rfl Tryd.func78 (by kernel_rfl) rfl #[.int .i32 (rd x6_2 x7_2)] rfl (by (try simp only [List.map_toArray, List.map_cons, List.map_nil]); first | done | rfl | (simp only [List.length_drop, List.length_take]; rfl)) ?_; (with_reducible refine (tremaref02_Class.calls k2 (rd x6_2 x7_2) t231 _ A8.out).mono ?_); rintro e w' ⟨rfl, ⟨nd, rfl⟩⟩; refine ⟨_, rfl, ?_⟩; have p232 : 0 ≤ (x7_2 : Int) := of_decide_eq_true (by first | (with_reducible assumption) | assumption); have q232 : x7_2 < (x6_2.length : Int) := of_decide_eq_true (by first | (with_reducible assumption) | assumption); obtain ⟨ad232, e232, hx232_0⟩ := Kd.at_int (Kd.R_reads' HO_6.out).2.2 x7_2 p232 q232; obtain rfl : ad230 = ad232 := (by injection e232); replace p232 := eq_true p232; replace q232 := eq_true q232) | ((with_reducible refine gate_builtin (b := .append) (xs := #[.tmp 35, .tmp 40]) rfl ?_); at_builtin; refine Kd.R_append (Kd.int .i32) (w0 := w) w.heap.size rfl (.tmp 35) (.tmp 40) 42 21 (.int .i32 0) 4 rfl Tryd.underlying42 info21 rfl (by decide) (by omega) u3 x3_2 (rd x6_2 x7_2) [.int .i32 (rd x6_2 x7_2)] (fun k_ => some k_ ≠ (.slice (some ad230) x6_2.length co14 : Value).ownBlock) (fun _ => False) rfl rfl ?aP (fun _ hk => hk.elim) ?aF ?aO ?aB ?aS ?aL ?_; (case aP => exact rfl); (case aB => exact (by repeat (first | (with_reducible first | exact HB.out | apply below_alloc | apply pw_below_drewN | apply below_drew1) | exact HB.out))); (case aF => exact (fun k_ hk => Kd.fresh' (Kd.R_lt (by (with_reducible repeat (first | apply Kd.R_alloc | apply Kd.R_drewN | apply Kd.R_drew)); exact HO_6.out)) k_ hk)); (case aO => exact (by (with_reducible repeat (first | apply Kd.R_alloc | apply Kd.R_drewN | apply Kd.R_drew)); exact HO_3.out)); (case aS => exact (below_size (by repeat (first | (with_reducible first | exact HB.out | apply below_alloc | apply pw_below_drewN | apply below_drew1) | exact HB.out)))); (case aL => have := LMc9.out; omega); intro v234 w15 ho hb hg hat; rw [← Ny233.out] at ho; have n0_ := Aside0.mk (Kd.R_after (ok := (fun _ => True)) (by (with_reducible repeat (first | apply Kd.R_alloc | apply Kd.R_drewN | apply Kd.R_drew)); exact Kd.R_mono HO_6.out (fun _ hk => ⟨trivial, hk⟩)) hg hat); have n1_ := Aside0.mk (hb); have n2_ := Aside0.mk (ho); clear HO_6; clear HB; clear HO_3; have HO_6 := n0_; have HB := n1_; have HO235 := n2_; clear n0_ n1_ n2_; clear ho hb hg hat; obtain ⟨Ao16, co16, eo16⟩ := Kd.R_slice HO235.out; subst eo16)); go_loopg [9, 10] k2 (fun kq v9 v10 w' => ∃ (x9_3 : Int) (x10_3 : Int), v9 = .int .i64 x9_3 ∧ v10 = .int .i64 x10_3 ∧ Aside0 (tremaref03_Normal.l2 kq l0 y233 x4_2 x5_1 x6_2 x7_2 t231 x9_3 x10_3 = some r) ∧ Aside0 (kq ≤ k2) ∧ Aside0 (Kd.R (Kd.int .i32) 21 w' w.heap.size (fun k_ => some k_ ≠ ((.slice (some ad230) x6_2.length co14) : Value).ownBlock) (.slice Ao16 y233.length co16) y233) ∧ Aside0 (Kd.R (Kd.int .i32) 21 w' w.heap.size (fun k_ => some k_ ≠ ((.slice Ao16 y233.length co16) : Value).ownBlock) (.slice (some ad230) x6_2.length co14) x6_2) ∧ Aside0 (Below w.heap.size w w'))
           case atStart => exact ⟨(x4_2), (wrap64 ((y233.length : Int) - 1)), (by first | rfl | (simp; done) | (simp [*]; done)), (by first | rfl | (simp; done) | (simp [*]; done)), H', ⟨Nat.le_refl _⟩, ⟨by (with_reducible repeat (first | apply Kd.R_alloc | apply Kd.R_drewN | apply Kd.R_drew)); exact HO235.out⟩, ⟨by (with_reducible repeat (first | apply Kd.R_alloc | apply Kd.R_drewN | apply Kd.R_drew)); exact Kd.R_mono HO_6.out (fun _ hk => hk.2)⟩, ⟨by repeat (first | (with_reducible first | exact HB.out | apply below_alloc | apply pw_below_drewN | apply below_drew1) | exact HB.out)⟩⟩
           case round =>
            clear H'; (try clear c1); (try clear c2); (try clear c2b0); (try clear p2); (try clear q2); (try clear hx2); (try clear c3); (try clear c3b0); (try clear c6); (try clear c6b0); (try clear p6); (try clear c7); (try clear c7b0); (try clear c9); (try clear c10); (try clear c10b0); (try clear c10b1); (try clear hx226_0); (try clear hx230_0); (try clear hx232_0); (try clear p2); (try clear p226); (try clear p230); (try clear p232); (try clear q2); (try clear q226); (try clear q230); (try clear q232); obtain ⟨x9_3, x10_3, rfl, rfl, HA, HK3, HO_3, HO_6, HB⟩ := hrel
            cases gk with
            | zero => exact absurd HA.out (by simp [tremaref03_Normal.l2])
            | succ k3 =>
             have H := HA.out; clear HA; simp only [tremaref03_Normal.l2] at H; by_cases c17 : x9_3 < x10_3
             ·rw [if_pos c17] at H; have c17b0 : decide (x9_3 < x10_3) = true := decide_eq_true c17; clear c17; obtain ⟨ji18, hji18⟩ : ∃ j_ : Int, (wrap64 (Int.tdiv (wrap64 (x9_3 + x10_3)) 2)) = j_ := ⟨_, rfl⟩; (replace H : (if 0 ≤ (ji18) then (if (ji18) < (y233.length : Int) then ((tremaref02_Class.f k3 (rd y233 (ji18))).bind fun t237 => (if t237 > t231 then (tremaref03_Normal.l2 k3 l0 y233 x4_2 x5_1 x6_2 x7_2 t231 x9_3 ji18) else (tremaref03_Normal.l2 k3 l0 y233 x4_2 x5_1 x6_2 x7_2 t231 (wrap64 ((ji18) + 1)) x10_3))) else (none)) else (none)) = some r := by first | (rw [hji18] at H; exact H) | (simp only [hji18] at H ⊢; exact H)); have hji18w : (IntKind.i64.wrap (Int.tdiv (wrap64 (x9_3 + x10_3)) 2)) = ji18 := (i64_w _).trans hji18; by_cases c19 : 0 ≤ (ji18)
              ·rw [if_pos c19] at H; have c19b0 : decide (0 ≤ (ji18)) = true := decide_eq_true c19; clear c19; by_cases c20 : (ji18) < (y233.length : Int)
               ·rw [if_pos c20] at H; have c20b0 : decide ((ji18) < (y233.length : Int)) = true := decide_eq_true c20; clear c20; replace H := Option.bind_eq_some_iff.mp H; obtain ⟨t237, A210, H⟩ := H; (try dsimp only at H); have A21 := Aside0.mk A210; clear A210; by_cases c22 : t237 > t231
                ·rw [if_pos c22] at H; have c22b0 : decide (t231 < t237) = true := decide_eq_true c22; clear c22; have H' := Aside0.mk H; clear H; have p236 : 0 ≤ ((ji18) : Int) := of_decide_eq_true (by first | (with_reducible assumption) | assumption); have q236 : (ji18) < (y233.length : Int) := of_decide_eq_true (by first | (with_reducible assumption) | assumption); obtain ⟨ad236, e236, hx236_0⟩ := Kd.at_int (Kd.R_reads' HO_3.out).2.2 (ji18) p236 q236; cases e236; replace p236 := eq_true p236; replace q236 := eq_true q236; go_wp2_with (first | ((with_reducible refine gate_callee (f := 78) rfl ?_); refine goesL_ (some 61) rfl rfl Tryd.func78 (by kernel_rfl) rfl #[.int .i32 (rd y233 (ji18))] rfl (by (try simp only [List.map_toArray, List.map_cons, List.map_nil]); first | done | (simp only [hji18]; rfl) | rfl | (simp only [List.length_drop, List.length_take]; rfl)) ?_; (with_reducible refine (tremaref02_Class.calls k3 (rd y233 (ji18)) t237 _ A21.out).mono ?_); rintro e w' ⟨rfl, ⟨nd, rfl⟩⟩; refine ⟨_, rfl, ?_⟩)); go_roundg k3
                 case measure => have := HK1.out; have := HK2.out; have := HK3.out; omega
                 case rel => exact ⟨(x9_3), (ji18), (by first | rfl | (simp; done) | (simp [*]; done)), (by first | rfl | (simp; done) | (simp only [← hji18] <;> (first | rfl | simp)) | (simp [*]; done)), H', ⟨by have := HK1.out; have := HK2.out; have := HK3.out; omega⟩, ⟨by (with_reducible repeat (first | apply Kd.R_alloc | apply Kd.R_drewN | apply Kd.R_drew)); exact HO_3.out⟩, ⟨by (with_reducible repeat (first | apply Kd.R_alloc | apply Kd.R_drewN | apply Kd.R_drew)); exact HO_6.out⟩, ⟨by repeat (first | (with_reducible first | exact HB.out | apply below_alloc | apply pw_below_drewN | apply below_drew1) | exact HB.out)⟩⟩
                ·rw [if_neg c22] at H; have c22b0 : decide (t231 < t237) = false := decide_eq_false c22; clear c22; have H' := Aside0.mk H; clear H; have p236 : 0 ≤ ((ji18) : Int) := of_decide_eq_true (by first | (with_reducible assumption) | assumption); have q236 : (ji18) < (y233.length : Int) := of_decide_eq_true (by first | (with_reducible assumption) | assumption); obtain ⟨ad236, e236, hx236_0⟩ := Kd.at_int (Kd.R_reads' HO_3.out).2.2 (ji18) p236 q236; cases e236; replace p236 := eq_true p236; replace q236 := eq_true q236; go_wp2_with (first | ((with_reducible refine gate_callee (f := 78) rfl ?_); refine goesL_ (some 61) rfl rfl Tryd.func78 (by kernel_rfl) rfl #[.int .i32 (rd y233 (ji18))] rfl (by (try simp only [List.map_toArray, List.map_cons, List.map_nil]); first | done | (simp only [hji18]; rfl) | rfl | (simp only [List.length_drop, List.length_take]; rfl)) ?_; (with_reducible refine (tremaref02_Class.calls k3 (rd y233 (ji18)) t237 _ A21.out).mono ?_); rintro e w' ⟨rfl, ⟨nd, rfl⟩⟩; refine ⟨_, rfl, ?_⟩)); go_roundg k3
                 case measure => have := HK1.out; have := HK2.out; have := HK3.out; omega
                 case rel => exact ⟨(wrap64 ((ji18) + 1)), (x10_3), (by first | rfl | (simp; done) | (simp only [← hji18] <;> (first | rfl | simp)) | (simp [*]; done)), (by first | rfl | (simp; done) | (simp [*]; done)), H', ⟨by have := HK1.out; have := HK2.out; have := HK3.out; omega⟩, ⟨by (with_reducible repeat (first | apply Kd.R_alloc | apply Kd.R_drewN | apply Kd.R_drew)); exact HO_3.out⟩, ⟨by (with_reducible repeat (first | apply Kd.R_alloc | apply Kd.R_drewN | apply Kd.R_drew)); exact HO_6.out⟩, ⟨by repeat (first | (with_reducible first | exact HB.out | apply below_alloc | apply pw_below_drewN | apply below_drew1) | exact HB.out)⟩⟩
               ·rw [if_neg c20] at H; exact absurd H (by simp)
              ·rw [if_neg c19] at H; exact absurd H (by simp)
             ·rw [if_neg c17] at H; have c17b0 : decide (x9_3 < x10_3) = false := decide_eq_false c17; clear c17; have H' := Aside0.mk H; clear H; go_wp2; go_loopg [12] k3 (fun kq v12 w' => ∃ (x3_4 : List Int) (x12_4 : Int), v12 = .int .i64 x12_4 ∧ Aside0 (tremaref03_Normal.l3 kq l0 x3_4 x4_2 x5_1 x6_2 x7_2 x9_3 x12_4 = some r) ∧ Aside0 (kq ≤ k3) ∧ Aside0 (Kd.R (Kd.int .i32) 21 w' w.heap.size (fun k_ => some k_ ≠ ((.slice (some ad230) x6_2.length co14) : Value).ownBlock) (.slice Ao16 y233.length co16) x3_4) ∧ Aside0 (Kd.R (Kd.int .i32) 21 w' w.heap.size (fun k_ => some k_ ≠ ((.slice Ao16 y233.length co16) : Value).ownBlock) (.slice (some ad230) x6_2.length co14) x6_2) ∧ Aside0 (Below w.heap.size w w'))
              case atStart => exact ⟨(y233), (wrap64 ((y233.length : Int) - 1)), (by first | rfl | (simp; done) | (simp [*]; done)), H', ⟨Nat.le_refl _⟩, ⟨by (with_reducible repeat (first | apply Kd.R_alloc | apply Kd.R_drewN | apply Kd.R_drew)); exact HO_3.out⟩, ⟨by (with_reducible repeat (first | apply Kd.R_alloc | apply Kd.R_drewN | apply Kd.R_drew)); exact HO_6.out⟩, ⟨by repeat (first | (with_reducible first | exact HB.out | apply below_alloc | apply pw_below_drewN | apply below_drew1) | exact HB.out)⟩⟩
              case round =>
               clear H'; (try clear c1); (try clear c2); (try clear c2b0); (try clear p2); (try clear q2); (try clear hx2); (try clear c3); (try clear c3b0); (try clear c6); (try clear c6b0); (try clear p6); (try clear c7); (try clear c7b0); (try clear c9); (try clear c10); (try clear c10b0); (try clear c10b1); (try clear c17); (try clear c17b0); (try clear c19); (try clear c19b0); (try clear c20); (try clear c20b0); (try clear c22); (try clear c22b0); (try clear p22); (try clear q22); (try clear hx22); (try clear hx226_0); (try clear hx230_0); (try clear hx232_0); (try clear hx236_0); (try clear p2); (try clear p226); (try clear p230); (try clear p232); (try clear p236); (try clear p6); (try clear q2); (try clear q226); (try clear q230); (try clear q232); (try clear q236); obtain ⟨x3_4, x12_4, rfl, HA, HK4, HO_3, HO_6, HB⟩ := hrel; have hl3_4 := (Kd.R_reads' HO_3.out).1; rw [hl3_4] at HO_3
               (try simp only [hl3_4])
               (try simp only [hl3_4] at HO_6)
               cases gk with
               | zero => exact absurd HA.out (by simp [tremaref03_Normal.l3])
               | succ k4 =>
                have H := HA.out; clear HA; simp only [tremaref03_Normal.l3] at H; by_cases c23 : x12_4 > x9_3
                ·rw [if_pos c23] at H; have c23b0 : decide (x9_3 < x12_4) = true := decide_eq_true c23; clear c23; obtain ⟨ji24, hji24⟩ : ∃ j_ : Int, (wrap64 (x12_4 - 1)) = j_ := ⟨_, rfl⟩; (replace H : (if 0 ≤ (ji24) then (if (ji24) < (x3_4.length : Int) then (if 0 ≤ x12_4 then (if x12_4 < (x3_4.length : Int) then (tremaref03_Normal.l3 k4 l0 (x3_4.set (x12_4 : Int).toNat (rd x3_4 (ji24))) x4_2 x5_1 x6_2 x7_2 x9_3 ji24) else (none)) else (none)) else (none)) else (none)) = some r := by first | (rw [hji24] at H; exact H) | (simp only [hji24] at H ⊢; exact H)); have hji24w : (IntKind.i64.wrap (x12_4 - 1)) = ji24 := (i64_w _).trans hji24; by_cases c25 : 0 ≤ (ji24)
                 ·rw [if_pos c25] at H; have c25b0 : decide (0 ≤ (ji24)) = true := decide_eq_true c25; clear c25; by_cases c26 : (ji24) < (x3_4.length : Int)
                  ·rw [if_pos c26] at H; have c26b0 : decide ((ji24) < (x3_4.length : Int)) = true := decide_eq_true c26; clear c26; by_cases c27 : 0 ≤ x12_4
                   ·rw [if_pos c27] at H; have c27b0 : decide (0 ≤ x12_4) = true := decide_eq_true c27; clear c27; by_cases c28 : x12_4 < (x3_4.length : Int)
                    ·rw [if_pos c28] at H; have c28b0 : decide (x12_4 < (x3_4.length : Int)) = true := decide_eq_true c28; clear c28; obtain ⟨y239, hy239⟩ : ∃ y_ : List Int, y_ = (x3_4.set (x12_4 : Int).toNat (rd x3_4 (ji24))) := ⟨_, rfl⟩; (replace H : (tremaref03_Normal.l3 k4 l0 y239 x4_2 x5_1 x6_2 x7_2 x9_3 ji24) = some r := by first | (rw [hy239]; with_reducible exact H) | (have H2_ := (Option.bind_some _ _).symm.trans H; rw [hy239]; with_reducible exact H2_) | (have H2_ := (Option.bind_some _ _).symm.trans H; with_reducible exact H2_) | with_reducible exact H | (rw [hy239]; exact H) | exact H); have Ny239 := Aside0.mk hy239; clear hy239; have H' := Aside0.mk H; clear H; have p238 : 0 ≤ ((ji24) : Int) := of_decide_eq_true (by first | (with_reducible assumption) | assumption); have q238 : (ji24) < (x3_4.length : Int) := of_decide_eq_true (by first | (with_reducible assumption) | assumption); obtain ⟨ad238, e238, hx238_0⟩ := Kd.at_int (Kd.R_reads' HO_3.out).2.2 (ji24) p238 q238; cases e238; replace p238 := eq_true p238; replace q238 := eq_true q238; have p29 : 0 ≤ (x12_4 : Int) := of_decide_eq_true (by first | (with_reducible assumption) | assumption); have q29 : (x12_4 : Int) < ((x3_4.length : Int) : Int) := of_decide_eq_true (by first | (with_reducible assumption) | assumption); obtain ⟨go29, co29, eo29, gb29, gl29, cl29, HG29⟩ := Kd.R_form HO_3.out (by omega)
                     (first | cases eo29 | (injection eo29 with ea_ en_ ec_; (first | subst ea_ | (injection ea_ with ea_; subst ea_)); subst ec_; clear en_))
                     have GB29 := Aside0.mk gb29; have GG29 := Aside0.mk HG29; clear gb29 gl29 HG29
                     (first | simp only [add_plain] at hx238_0 | skip)
                     obtain ⟨hx29_0, hf29_0⟩ := Kd.R_celln 0 HO_3.out (x12_4 : Int) p29 q29; replace p29 := eq_true p29; replace q29 := eq_true q29; have HP30 := Kd.R_putg HO_3.out (x12_4 : Int) (rd x3_4 (ji24)); go_wp2_with (first | ((with_reducible refine gate_store (t := 21) (p := 82) rfl ?_); refine store_event (t := 21) (p := 82) (v := ?vo_w31) (w1 := (wr.setCell ⟨go29, (x12_4 : Int).toNat, none⟩ (.int .i32 (rd x3_4 (ji24))))) ?hg ?ho ?hn ?hr ?_; (case ho => rfl); (case hg => rfl); (case hn => rfl); (case hr => first | (go_simp; done) | (go_simp; rfl)); intro w31 hw; have hg : wr.grownBy w31 (some go29) := (by rw [hw]; exact HP30.2); have hp_ : Kd.R (Kd.int .i32) 21 w31 w.heap.size (fun k_ => some k_ ≠ (.slice (some ad230) x6_2.length co14 : Value).ownBlock) (.slice (some ⟨go29, 0, none⟩) x3_4.length co16) y239 := (by rw [hw, Ny239.out]; exact HP30.1); clear HP30; have n0_ := Aside0.mk (hp_); have n1_ := Aside0.mk (Kd.R_after (v := (.slice (some ⟨go29, 0, none⟩) x3_4.length co16)) (v1 := (.slice (some ⟨go29, 0, none⟩) x3_4.length co16)) (ok := (fun _ => True)) (by (with_reducible repeat (first | apply Kd.R_alloc | apply Kd.R_drewN | apply Kd.R_drew)); exact Kd.R_mono HO_6.out (fun _ hk => ⟨trivial, hk⟩)) hg (.inl rfl)); have n2_ := Aside0.mk ((by rw [hw]; exact below_set (HB.out) GB29.out : Below w.heap.size w w31)); clear HO_3; clear HO_6; clear HB; have HO_3 := n0_; have HO_6 := n1_; have HB := n2_; clear n0_ n1_ n2_; clear hg hw hp_))
                     (try simp only [← hl3_4])
                     go_roundg k4
                     case measure => have := HK1.out; have := HK2.out; have := HK3.out; have := HK4.out; omega
                     case rel => exact ⟨(y239), (ji24), (by first | rfl | (simp; done) | (simp only [← hji24] <;> (first | rfl | simp)) | (simp [*]; done)), H', ⟨by have := HK1.out; have := HK2.out; have := HK3.out; have := HK4.out; omega⟩, ⟨by (try simp only [hl3_4]); (with_reducible repeat (first | apply Kd.R_alloc | apply Kd.R_drewN | apply Kd.R_drew)); exact HO_3.out⟩, ⟨by (try simp only [hl3_4]); (with_reducible repeat (first | apply Kd.R_alloc | apply Kd.R_drewN | apply Kd.R_drew)); exact Kd.R_mono HO_6.out (fun _ hk => hk.2)⟩, ⟨by repeat (first | (with_reducible first | exact HB.out | apply below_alloc | apply pw_below_drewN | apply below_drew1) | exact HB.out)⟩⟩
                    ·rw [if_neg c28] at H; exact absurd H (by simp)
                   ·rw [if_neg c27] at H; exact absurd H (by simp)
                  ·rw [if_neg c26] at H; exact absurd H (by simp)
                 ·rw [if_neg c25] at H; exact absurd H (by simp)
                ·rw [if_neg c23] at H; have c23b0 : decide (x9_3 < x12_4) = false := decide_eq_false c23; clear c23; by_cases c32 : 0 ≤ x7_2
                 ·rw [if_pos c32] at H; have c32b0 : decide (0 ≤ x7_2) = true := decide_eq_true c32; clear c32; by_cases c33 : x7_2 < (x6_2.length : Int)
                  ·rw [if_pos c33] at H; have c33b0 : decide (x7_2 < (x6_2.length : Int)) = true := decide_eq_true c33; clear c33; by_cases c34 : 0 ≤ x9_3
                   ·rw [if_pos c34] at H; have c34b0 : decide (0 ≤ x9_3) = true := decide_eq_true c34; clear c34; by_cases c35 : x9_3 < (x3_4.length : Int)
                    ·rw [if_pos c35] at H; have c35b0 : decide (x9_3 < (x3_4.length : Int)) = true := decide_eq_true c35; clear c35; obtain ⟨y241, hy241⟩ : ∃ y_ : List Int, y_ = (x3_4.set (x9_3 : Int).toNat (rd x6_2 x7_2)) := ⟨_, rfl⟩; (replace H : (tremaref03_Normal.l1 k4 l0 y241 x4_2 x5_1 x6_2 (wrap64 (x7_2 + 1))) = some r := by first | (rw [hy241]; with_reducible exact H) | (have H2_ := (Option.bind_some _ _).symm.trans H; rw [hy241]; with_reducible exact H2_) | (have H2_ := (Option.bind_some _ _).symm.trans H; with_reducible exact H2_) | with_reducible exact H | (rw [hy241]; exact H) | exact H); have Ny241 := Aside0.mk hy241; clear hy241; have H' := Aside0.mk H; clear H; have p240 : 0 ≤ (x7_2 : Int) := of_decide_eq_true (by first | (with_reducible assumption) | assumption); have q240 : x7_2 < (x6_2.length : Int) := of_decide_eq_true (by first | (with_reducible assumption) | assumption); obtain ⟨ad240, e240, hx240_0⟩ := Kd.at_int (Kd.R_reads' HO_6.out).2.2 x7_2 p240 q240; obtain rfl : ad230 = ad240 := (by injection e240); replace p240 := eq_true p240; replace q240 := eq_true q240; have p36 : 0 ≤ (x9_3 : Int) := of_decide_eq_true (by first | (with_reducible assumption) | assumption); have q36 : (x9_3 : Int) < ((x3_4.length : Int) : Int) := of_decide_eq_true (by first | (with_reducible assumption) | assumption); obtain ⟨go36, co36, eo36, gb36, gl36, cl36, HG36⟩ := Kd.R_form HO_3.out (by omega)
                     (first | cases eo36 | (injection eo36 with ea_ en_ ec_; (first | subst ea_ | (injection ea_ with ea_; subst ea_)); subst ec_; clear en_))
                     have GB36 := Aside0.mk gb36; have GG36 := Aside0.mk HG36; clear gb36 gl36 HG36; obtain ⟨hx36_0, hf36_0⟩ := Kd.R_celln 0 HO_3.out (x9_3 : Int) p36 q36; replace p36 := eq_true p36; replace q36 := eq_true q36; have HP37 := Kd.R_putg HO_3.out (x9_3 : Int) (rd x6_2 x7_2); go_wp2_with (first | ((with_reducible refine gate_store (t := 21) (p := 89) rfl ?_); refine store_event (t := 21) (p := 89) (v := ?vo_w38) (w1 := (wr.setCell ⟨go36, (x9_3 : Int).toNat, none⟩ (.int .i32 (rd x6_2 x7_2)))) ?hg ?ho ?hn ?hr ?_; (case ho => rfl); (case hg => rfl); (case hn => rfl); (case hr => first | (go_simp; done) | (go_simp; rfl)); intro w38 hw; have hg : wr.grownBy w38 (some go36) := (by rw [hw]; exact HP37.2); have hp_ : Kd.R (Kd.int .i32) 21 w38 w.heap.size (fun k_ => some k_ ≠ (.slice (some ad230) x6_2.length co14 : Value).ownBlock) (.slice (some ⟨go36, 0, none⟩) x3_4.length co16) y241 := (by rw [hw, Ny241.out]; exact HP37.1); clear HP37; have n0_ := Aside0.mk (hp_); have n1_ := Aside0.mk (Kd.R_after (v := (.slice (some ⟨go36, 0, none⟩) x3_4.length co16)) (v1 := (.slice (some ⟨go36, 0, none⟩) x3_4.length co16)) (ok := (fun _ => True)) (by (with_reducible repeat (first | apply Kd.R_alloc | apply Kd.R_drewN | apply Kd.R_drew)); exact Kd.R_mono HO_6.out (fun _ hk => ⟨trivial, hk⟩)) hg (.inl rfl)); have n2_ := Aside0.mk ((by rw [hw]; exact below_set (HB.out) GB36.out : Below w.heap.size w w38)); clear HO_3; clear HO_6; clear HB; have HO_3 := n0_; have HO_6 := n1_; have HB := n2_; clear n0_ n1_ n2_; clear hg hw hp_))
                     (try simp only [← hl3_4])
                     go_roundg k4
                     case measure => have := HK1.out; have := HK2.out; have := HK3.out; have := HK4.out; omega
                     case rel => exact ⟨(y241), (x4_2), (x6_2), (wrap64 (x7_2 + 1)), (by first | rfl | (simp; done) | (simp [*]; done)), (by first | rfl | (simp; done) | (simp [*]; done)), H', ⟨by have := HK1.out; have := HK2.out; have := HK3.out; have := HK4.out; omega⟩, ⟨by (try simp only [hl3_4]); (with_reducible repeat (first | apply Kd.R_alloc | apply Kd.R_drewN | apply Kd.R_drew)); exact HO_3.out⟩, ⟨by (try simp only [hl3_4]); (with_reducible repeat (first | apply Kd.R_alloc | apply Kd.R_drewN | apply Kd.R_drew)); exact Kd.R_mono HO_6.out (fun _ hk => hk.2)⟩, ⟨by repeat (first | (with_reducible first | exact HB.out | apply below_alloc | apply pw_below_drewN | apply below_drew1) | exact HB.out)⟩⟩
                    ·rw [if_neg c35] at H; exact absurd H (by simp)
                   ·rw [if_neg c34] at H; exact absurd H (by simp)
                  ·rw [if_neg c33] at H; exact absurd H (by simp)
                 ·rw [if_neg c32] at H; exact absurd H (by simp)
         ·rw [if_neg c9] at H; exact absurd H (by simp)
        ·rw [if_neg c7] at H; exact absurd H (by simp)
       ·rw [if_neg c6] at H; have c6b0 : decide (x7_2 < (x6_2.length : Int)) = false := decide_eq_false c6; clear c6; have H' := Aside0.mk H; clear H; obtain ⟨Ao39, co39, eo39⟩ := Kd.R_slice HO_6.out; subst eo39; go_wp2; go_roundg k2
        case measure => have := HK1.out; have := HK2.out; omega
        case rel => exact ⟨(x3_2), (x4_2), (wrap64 (x5_1 + 1)), (by first | rfl | (simp; done) | (simp [*]; done)), (by first | rfl | (simp; done) | (simp [*]; done)), H', ⟨by have := HK1.out; have := HK2.out; omega⟩, ⟨by (with_reducible repeat (first | apply Kd.R_alloc | apply Kd.R_drewN | apply Kd.R_drew)); exact Kd.R_mono HO_3.out (fun _ hk => trivial)⟩, ⟨by repeat (first | (with_reducible first | exact HB.out | apply below_alloc | apply pw_below_drewN | apply below_drew1) | exact HB.out)⟩⟩
    ·rw [if_neg c3] at H; exact absurd H (by simp)
   ·rw [if_neg c2] at H; have c2b0 : decide (x5_1 < (l0.length : Int)) = false := decide_eq_false c2; clear c2; obtain rfl := Option.some.inj H; go_wp2; go_ret; exact ⟨_, by first | rfl | (simp [errW_none, errW_some] <;> rfl) | (simp [*, errW_none, errW_some] <;> rfl), by (with_reducible repeat (first | apply Kd.R_alloc | apply Kd.R_drewN | apply Kd.R_drew)); exact HO_3.out, by repeat (first | (with_reducible first | exact HB.out | apply below_alloc | apply pw_below_drewN | apply below_drew1) | exact HB.out)⟩
end Go.Proofs.YthffpkdadffinaaDoor.X
namespace Go.Proofs.YthffpkdadffinaaDoor.Ob
set_option linter.unusedVariables false
set_option linter.unusedSimpArgs false
open Go.Proofs.YthffpkdadffinaaDoor.Vd (decU)
open Go.Proofs.YthffpkdadffinaaDoor.Nc (K K_take K_drop K_left srt_le)
open Go.RowKit YthffpkdadffinaaDoorW.PrintWords Ev0 X Va Vc Ve Vp0 Vr Vu Na Oa
theorem ins_skip (d : Int) (hd : cls d ≠ 0) : ∀ (p s : List Int), (∀ y ∈ p, cls d < cls y) → (s = [] ∨ ∃ z t, s = z :: t ∧ cls z ≤ cls d) → ins d (p ++ s) = p ++ d :: s
  | [], s, _, hs => by
    rcases hs with rfl | ⟨z, t, rfl, hz⟩
    · rfl
    · rw [List.nil_append, ins, if_neg (fun k => by omega)]; rfl
  | y :: p, s, hp, hs => by
    rw [List.cons_append, ins, if_pos ⟨hd, hp y (List.mem_cons_self ..)⟩, ins_skip d hd p s (fun z hz => hp z (List.mem_cons_of_mem _ hz)) hs]
    rfl
theorem K_get {l : List Int} {i : Nat} (h : i < l.length) : K l i = cls l[i] := by unfold K; rw [List.getD_eq_getElem?_getD, List.getElem?_eq_getElem h]; rfl
theorem ins_at (acc : List Int) (d : Int) (hd : cls d ≠ 0) (lo : Nat) (hlo : lo ≤ acc.length) (h1 : ∀ i, lo ≤ i → i < acc.length → cls d < K acc i) (h2 : lo = 0 ∨ K acc (lo - 1) ≤ cls d) :
    (ins d acc.reverse).reverse = acc.take lo ++ d :: acc.drop lo := by
  (have e : acc.reverse = (acc.drop lo).reverse ++ (acc.take lo).reverse := by rw [← List.reverse_append, List.take_append_drop]); rw [e, ins_skip d hd]
  · simp
  · intro y hy; obtain ⟨i, hi, rfl⟩ := List.getElem_of_mem (List.mem_reverse.1 hy); rw [List.length_drop] at hi; rw [List.getElem_drop]; have := h1 (lo + i) (by omega) (by omega)
    rwa [K_get (by omega)] at this
  · rcases h2 with rfl | h2
    · exact .inl (by simp)
    · rcases Nat.eq_zero_or_pos lo with rfl | h0
      · exact .inl (by simp)
      · refine .inr ⟨acc[lo - 1], (acc.take (lo - 1)).reverse, ?_, ?_⟩
        · have := List.take_succ_eq_append_getElem (i := lo - 1) (l := acc) (by omega); rw [show lo - 1 + 1 = lo by omega] at this; rw [this]; simp
        · rwa [K_get (by omega)] at h2
theorem w64d {a : Nat} (h0 : 0 < a) (h : a < 4611686018427387904) : wrap64 ((a : Int) - 1) = ((a - 1 : Nat) : Int) := by unfold wrap64; omega
theorem wmid {a b : Nat} (h : a + b < 4611686018427387904) : wrap64 (Int.tdiv (wrap64 ((a : Int) + (b : Int))) 2) = (((a + b) / 2 : Nat) : Int) := by
  (have e : wrap64 ((a : Int) + (b : Int)) = ((a + b : Nat) : Int) := by unfold wrap64; omega); rw [e, show Int.tdiv ((a + b : Nat) : Int) 2 = (((a + b) / 2 : Nat) : Int) by rw [Int.tdiv_eq_ediv_of_nonneg (by omega)]; omega]; unfold wrap64; omega
section
variable {x0 : List Int} {x5 : Int} {x6 : List Int} {R : List Int} {acc : List Int} {j f : Nat}
theorem l3Ev (hj : j < x6.length) (hl : acc.length ≤ 1000000000) (hj5 : x6.length ≤ 1000) (lo : Nat) (hlo : lo ≤ acc.length)
    (next : Ev (fun k => tremaref03_Normal.l1 k x0 (acc.take lo ++ x6[j] :: acc.drop lo) (f : Int) x5 x6 ((j + 1 : Nat) : Int)) R) :
    ∀ (q at_ : Nat), at_ = lo + q → at_ ≤ acc.length → ∀ v, Ev (fun k => tremaref03_Normal.l3 k x0 (acc.take at_ ++ v :: acc.drop at_) (f : Int) x5 x6 (j : Int) (lo : Int) (at_ : Int)) R
  | 0, at_, ha, hal, v => by
    obtain rfl : at_ = lo := ha; (have hlen : (acc.take at_ ++ v :: acc.drop at_).length = acc.length + 1 := by simp <;> omega); refine Ev.step (fun k => tremaref03_Normal.l3.eq_2 ..) ?_; simp only [if_neg (Int.lt_irrefl _), gt_iff_lt, hlen, if_pos (getLt hj), if_pos (show (0 : Int) ≤ (j : Int) by omega), if_pos (show (0 : Int) ≤ (at_ : Int) by omega), if_pos (show (at_ : Int) < ((acc.length + 1 : Nat) : Int) by omega), rd_nat hj, w64 (i := j) (by omega), Int.toNat_natCast]
    have e : (acc.take at_ ++ v :: acc.drop at_).set at_ x6[j] = acc.take at_ ++ x6[j] :: acc.drop at_ := by
      have : at_ = (acc.take at_).length := by rw [List.length_take]; omega
      conv => lhs; arg 2; rw [this]
      rw [List.set_append_right _ _ (Nat.le_refl _), Nat.sub_self]
      rfl
    rw [e]; exact next
  | q + 1, at_, ha, hal, v => by
    have hlen : (acc.take at_ ++ v :: acc.drop at_).length = acc.length + 1 := by simp <;> omega
    have hy : acc.take at_ = acc.take (at_ - 1) ++ [acc[at_ - 1]] := by
      have := List.take_succ_eq_append_getElem (i := at_ - 1) (l := acc) (by omega)
      rwa [show at_ - 1 + 1 = at_ by omega] at this
    have hrd : rd (acc.take at_ ++ v :: acc.drop at_) ((at_ - 1 : Nat) : Int) = acc[at_ - 1] := by
      rw [rd_nat (by rw [hlen]; omega), List.getElem_append_left (by rw [List.length_take]; omega), List.getElem_take]
    refine Ev.step (fun k => tremaref03_Normal.l3.eq_2 ..) ?_; simp only [if_pos (show (at_ : Int) > (lo : Int) by omega), hlen, w64d (a := at_) (by omega) (by omega), hrd, if_pos (show (0 : Int) ≤ ((at_ - 1 : Nat) : Int) by omega), if_pos (show ((at_ - 1 : Nat) : Int) < ((acc.length + 1 : Nat) : Int) by omega), if_pos (show (0 : Int) ≤ (at_ : Int) by omega), if_pos (show (at_ : Int) < ((acc.length + 1 : Nat) : Int) by omega), Int.toNat_natCast]
    have e : (acc.take at_ ++ v :: acc.drop at_).set at_ acc[at_ - 1] = acc.take (at_ - 1) ++ acc[at_ - 1] :: acc.drop (at_ - 1) := by
      have h1 : at_ = (acc.take at_).length := by rw [List.length_take]; omega
      have h2 : acc.drop (at_ - 1) = acc[at_ - 1] :: acc.drop at_ := by
        have := List.drop_eq_getElem_cons (i := at_ - 1) (l := acc) (by omega)
        rwa [show at_ - 1 + 1 = at_ by omega] at this
      conv => lhs; arg 2; rw [h1]
      rw [List.set_append_right _ _ (Nat.le_refl _), Nat.sub_self, h2, List.set_cons_zero, hy, List.append_assoc]
      rfl
    rw [e]; exact l3Ev hj hl hj5 lo hlo next q (at_ - 1) (by omega) (by omega) _
theorem l2Ev (hj : j < x6.length) (hl : acc.length ≤ 1000000000) (hj5 : x6.length ≤ 1000) (hs : Srt (acc.drop f)) (hf : f ≤ acc.length) (d : Int)
    (next : ∀ lo, f ≤ lo → lo ≤ acc.length → (∀ i, f ≤ i → i < lo → K acc i ≤ cls d) → (∀ i, lo ≤ i → i < acc.length → cls d < K acc i) → Ev (fun k => tremaref03_Normal.l1 k x0 (acc.take lo ++ x6[j] :: acc.drop lo) (f : Int) x5 x6 ((j + 1 : Nat) : Int)) R) :
    ∀ (q lo hi : Nat), hi - lo ≤ q → f ≤ lo → lo ≤ hi → hi ≤ acc.length → (∀ i, f ≤ i → i < lo → K acc i ≤ cls d) → (∀ i, hi ≤ i → i < acc.length → cls d < K acc i) →
      Ev (fun k => tremaref03_Normal.l2 k x0 (acc ++ [x6[j]]) (f : Int) x5 x6 (j : Int) (cls d) (lo : Int) (hi : Int)) R := by
  have stop : ∀ lo : Nat, f ≤ lo → lo ≤ acc.length → (∀ i, f ≤ i → i < lo → K acc i ≤ cls d) → (∀ i, lo ≤ i → i < acc.length → cls d < K acc i) → Ev (fun k => tremaref03_Normal.l2 k x0 (acc ++ [x6[j]]) (f : Int) x5 x6 (j : Int) (cls d) (lo : Int) (lo : Int)) R := by
    intro lo h1 h2 h3 h4; refine Ev.step (fun k => tremaref03_Normal.l2.eq_2 ..) ?_; simp only [if_neg (Int.lt_irrefl _), List.length_append, List.length_singleton, w64d (a := acc.length + 1) (by omega) (by omega), Nat.add_sub_cancel]; have := l3Ev (x0 := x0) (x5 := x5) (R := R) (f := f) hj hl hj5 lo h2 (next lo h1 h2 h3 h4) (acc.length - lo) acc.length (by omega) (Nat.le_refl _) x6[j]; rw [List.take_length, List.drop_length] at this; exact this
  intro q
  induction q with
  | zero =>
    intro lo hi h0 h1 h2 h3 h4 h5; (obtain rfl : lo = hi := by omega); exact stop lo h1 h3 h4 h5
  | succ q ih =>
    intro lo hi h0 h1 h2 h3 h4 h5; by_cases hlt : lo < hi
    · obtain ⟨m, hm⟩ : ∃ m, m = (lo + hi) / 2 := ⟨_, rfl⟩; (have hm1 : lo ≤ m := by omega); (have hm2 : m < hi := by omega); have hml : m < acc.length := Nat.lt_of_lt_of_le hm2 h3; have hmid := wmid (a := lo) (b := hi) (by omega); rw [← hm] at hmid; (have hrd : rd (acc ++ [x6[j]]) (m : Int) = acc[m] := by rw [rd_nat (by rw [List.length_append]; exact Nat.lt_add_right _ hml), List.getElem_append_left hml]); have hK := K_get (l := acc) (i := m) hml; clear hm
      have hmono : ∀ i i' : Nat, f ≤ i → i ≤ i' → i' < acc.length → K acc i ≤ K acc i' := by
        intro i i' g1 g2 g3; have := srt_le hs (i := i - f) (j := i' - f) (by omega) (by rw [List.length_drop]; omega)
        rwa [K_drop, K_drop, show f + (i - f) = i by omega, show f + (i' - f) = i' by omega] at this
      refine Ev.step (fun k => tremaref03_Normal.l2.eq_2 ..) ?_; (have g1 : (lo : Int) < (hi : Int) := by omega); (have g2 : (0 : Int) ≤ (m : Int) := by omega); (have g3 : (m : Int) < (((acc ++ [x6[j]]).length : Nat) : Int) := by rw [List.length_append, List.length_singleton]; omega); simp only [if_pos g1, hmid, if_pos g2, if_pos g3, hrd]; clear g1 g2 g3 hmid hrd; refine Ev.bind (clsEv _) ?_; by_cases hc : cls acc[m] > cls d
      · simp only [if_pos hc]; exact ih lo m (by omega) h1 hm1 (by omega) h4 (fun i g1 g2 => by have := hmono m i (by omega) g1 g2; omega)
      · simp only [if_neg hc, w64 (i := m) (by omega)]; exact ih (m + 1) hi (by omega) (by omega) (by omega) h3 (fun i g1 g2 => by have := hmono i m g1 (by omega) (by omega); omega) h5
    · (obtain rfl : lo = hi := by omega); exact stop lo h1 h3 h4 h5
end
def Sg (acc : List Int) (f : Nat) : Prop := f ≤ acc.length ∧ Srt (acc.drop f) ∧ (f = 0 ∨ K acc (f - 1) = 0)
theorem Sg.starter {acc : List Int} {d : Int} (hd : cls d = 0) : Sg (acc ++ [d]) (acc.length + 1) := by
  refine ⟨by simp, by rw [List.drop_eq_nil_of_le (by simp)]; exact List.Pairwise.nil, .inr ?_⟩; rw [Nat.add_sub_cancel, K_get (by simp)]
  simpa using hd
theorem Sg.mark {acc : List Int} {d : Int} {f lo : Nat} (h : Sg acc f) (h1 : f ≤ lo) (h2 : lo ≤ acc.length) (h3 : ∀ i, f ≤ i → i < lo → K acc i ≤ cls d) (h4 : ∀ i, lo ≤ i → i < acc.length → cls d < K acc i) : Sg (acc.take lo ++ d :: acc.drop lo) f := by
  obtain ⟨g1, g2, g3⟩ := h; refine ⟨by simp <;> omega, ?_, ?_⟩
  · have e : (acc.take lo ++ d :: acc.drop lo).drop f = (acc.drop f).take (lo - f) ++ d :: acc.drop lo := by
      rw [List.drop_append_of_le_length (by rw [List.length_take]; omega), List.drop_take]
    have e2 : acc.drop f = (acc.drop f).take (lo - f) ++ acc.drop lo := by
      have := (List.take_append_drop (lo - f) (acc.drop f)).symm
      rwa [List.drop_drop, show f + (lo - f) = lo by omega] at this
    rw [e]; rw [e2] at g2; obtain ⟨p1, p2, p3⟩ := List.pairwise_append.1 g2
    have q1 : ∀ x ∈ (acc.drop f).take (lo - f), cls x ≤ cls d := fun x hx => by
      obtain ⟨i, hi, rfl⟩ := List.getElem_of_mem hx; rw [List.length_take, List.length_drop] at hi; rw [List.getElem_take, List.getElem_drop]; have := h3 (f + i) (by omega) (by omega)
      rwa [K_get (by omega)] at this
    have q2 : ∀ y ∈ acc.drop lo, cls d < cls y := fun x hx => by
      obtain ⟨i, hi, rfl⟩ := List.getElem_of_mem hx; rw [List.length_drop] at hi; rw [List.getElem_drop]; have := h4 (lo + i) (by omega) (by omega)
      rwa [K_get (by omega)] at this
    refine List.pairwise_append.2 ⟨p1, List.pairwise_cons.2 ⟨fun y hy => Int.le_of_lt (q2 y hy), p2⟩, fun x hx y hy => ?_⟩; rcases List.mem_cons.1 hy with rfl | hy
    · exact q1 x hx
    · exact p3 x hx y hy
  · rcases g3 with g3 | g3
    · exact .inl g3
    · rcases Nat.eq_zero_or_pos f with h0 | h0
      · exact .inl h0
      · refine .inr ?_; rw [K_left (by rw [List.length_take]; omega), K_take (by omega)]; exact g3
theorem ordL_snoc (l : List Int) (d : Int) : ordL (l ++ [d]) = (ins d (ordL l).reverse).reverse := by
  unfold ordL; rw [ordR_snoc, List.reverse_reverse]
theorem l1Ev {x0 : List Int} {i : Nat} {x6 : List Int} {R : List Int} (done : List Int) (hl : (done ++ x6).length ≤ 1000000000) (hj5 : x6.length ≤ 1000)
    (next : ∀ f, Sg (ordL (done ++ x6)) f → Ev (fun k => tremaref03_Normal.l0 k x0 (ordL (done ++ x6)) (f : Int) (wrap64 ((i : Int) + 1))) R) :
    ∀ q j : Nat, j + q = x6.length → ∀ f, Sg (ordL (done ++ x6.take j)) f → Ev (fun k => tremaref03_Normal.l1 k x0 (ordL (done ++ x6.take j)) (f : Int) (i : Int) x6 (j : Int)) R := by
  intro q
  induction q with
  | zero =>
    intro j hj f hs; obtain rfl : j = x6.length := hj; rw [List.take_length] at hs ⊢; refine Ev.step (fun k => tremaref03_Normal.l1.eq_2 ..) ?_; simp only [if_neg (Int.lt_irrefl _)]; exact next f hs
  | succ q ih =>
    intro j hj f hs; have hjl : j < x6.length := by omega
    have hal : (ordL (done ++ x6.take j)).length ≤ 1000000000 := by
      rw [ordL_len]; rw [List.length_append] at hl ⊢; rw [List.length_take]; omega
    (have e : ordL (done ++ x6.take (j + 1)) = (ins x6[j] (ordL (done ++ x6.take j)).reverse).reverse := by rw [List.take_succ_eq_append_getElem hjl, ← List.append_assoc, ordL_snoc]); have ih := ih (j + 1) (by omega); obtain ⟨acc, hacc⟩ : ∃ acc, acc = ordL (done ++ x6.take j) := ⟨_, rfl⟩; rw [← hacc] at hs hal e ⊢; rw [e] at ih; clear e hacc; refine Ev.step (fun k => tremaref03_Normal.l1.eq_2 ..) ?_; simp only [if_pos (getLt hjl), if_pos (show (0 : Int) ≤ (j : Int) by omega), rd_nat hjl]; refine Ev.bind (clsEv _) ?_; simp only [if_pos (show acc.length < 35184372088832 by omega), Option.bind_some]; by_cases hd : cls x6[j] = 0
    · simp only [if_pos hd, w64 (i := j) (by omega)]; (have e2 : (ins x6[j] acc.reverse).reverse = acc ++ [x6[j]] := by rw [ins_zero hd]; simp); rw [e2] at ih; have := ih (acc.length + 1) (Sg.starter hd); rw [List.length_append, List.length_singleton]; exact this
    · simp only [if_neg hd, List.length_append, List.length_singleton, w64d (a := acc.length + 1) (by omega) (by omega), Nat.add_sub_cancel]; refine l2Ev hjl hal hj5 hs.2.1 hs.1 x6[j] ?_ (acc.length - f) f acc.length (by omega) (Nat.le_refl _) hs.1 (Nat.le_refl _) (fun i g1 g2 => by omega) (fun i g1 g2 => by omega); intro lo g1 g2 g3 g4
      have e2 := ins_at acc x6[j] hd lo g2 g4 (by
        rcases Nat.eq_zero_or_pos lo with h | h
        · exact .inl h
        · refine .inr ?_; rcases Nat.lt_or_ge f lo with h2 | h2
          · exact g3 (lo - 1) (by omega) (by omega)
          · (obtain rfl : lo = f := by omega); rcases hs.2.2 with h3 | h3
            · omega
            · rw [h3]; exact cls_nonneg _)
      rw [e2] at ih; exact ih f (hs.mark g1 g2 g3 g4)
theorem refNEv (l : List Int) (hwf : ∀ x ∈ l, I32 x) (hl : l.length ≤ 100000000) : Ev (fun k => tremaref03_Normal.f k l) (nrm l) := by
  unfold tremaref03_Normal.f
  have key : ∀ q i : Nat, i + q = l.length → ∀ f, Sg (ordL (flat (l.take i))) f → Ev (fun k => tremaref03_Normal.l0 k l (ordL (flat (l.take i))) (f : Int) (i : Int)) (nrm l) := by
    intro q
    induction q with
    | zero =>
      intro i hi f hs; obtain rfl : i = l.length := hi; rw [List.take_length]; refine Ev.step (fun k => tremaref03_Normal.l0.eq_2 ..) ?_; simp only [if_neg (Int.lt_irrefl _)]; exact Ev.now _
    | succ q ih =>
      intro i hi f hs; (have hil : i < l.length := by omega); have hx := hwf l[i] (List.getElem_mem hil)
      have e : flat (l.take (i + 1)) = flat (l.take i) ++ decU l[i] := by
        rw [List.take_succ_eq_append_getElem hil, flat_app]; simp [flat]
      have h1 := flat_len (l.take (i + 1)) (fun x hx => hwf x (List.mem_of_mem_take hx)); rw [e, List.length_take] at h1; have h2 := dec_len3 l[i] hx; have ih := ih (i + 1) (by omega); rw [e] at ih; refine Ev.step (fun k => tremaref03_Normal.l0.eq_2 ..) ?_; simp only [if_pos (getLt hil), if_pos (show (0 : Int) ≤ (i : Int) by omega), rd_nat hil]; refine Ev.bind (refdec _ hx) ?_; have := l1Ev (x0 := l) (i := i) (x6 := decU l[i]) (R := nrm l) (flat (l.take i)) (by omega) (by omega) (fun f hf => by rw [w64 (i := i) (by omega)]; exact ih f hf) (decU l[i]).length 0 (by omega) f (by rw [List.take_zero, List.append_nil]; exact hs); rw [List.take_zero, List.append_nil] at this; exact this
  exact key l.length 0 (by omega) 0 ⟨Nat.zero_le _, List.Pairwise.nil, .inl rfl⟩
end Go.Proofs.YthffpkdadffinaaDoor.Ob
namespace Go.Proofs.YthffpkdadffinaaDoor.Cn
set_option linter.unusedVariables false
set_option linter.unusedSimpArgs false
open Go.Proofs.YthffpkdadffinaaDoor.Vd (decU)
open Go.Proofs.YthffpkdadffinaaDoor.Fr (K3 T3)
open Go.RowKit YthffpkdadffinaaDoorW.PrintWords Ev0 X Va Vp0 Vr Vu Na Oa Ob
theorem NormR (w : World) (hG : G w) (A : Option Addr) (n c : Nat) (l : List Int) (hC : K3.C w A n l) (hn : n = l.length) (hc : n ≤ c) (hwf : ∀ x ∈ l, I32 x) (hl : n ≤ 100000000) :
    Calls Tryd.prog 71 #[.slice A n c] w fun e w' => ∃ v, e = .returned v ∧ K3.R T3 w' w.heap.size (fun _ => True) v (nrm l) ∧ Below w.heap.size w w' := by
  subst hn; obtain ⟨k, hk⟩ := Ev.rounds (normEv l hwf hl); exact norm_Normal.calls k A c l _ w hC hc hk hG
end Go.Proofs.YthffpkdadffinaaDoor.Cn
namespace Go.Proofs.YthffpkdadffinaaDoor.Fm
set_option linter.unusedVariables false
set_option linter.unusedSimpArgs false
open Go.RowKit YthffpkdadffinaaDoorW.PrintWords Hp
structure Th where
  P : (Nat → Prop) → World → Prop
  loc : ∀ {ok w w'}, P ok w → (∀ k, ok k → k < w.heap.size → w'.heap[k]? = w.heap[k]?) → P ok w'
  bnd : ∀ {ok w}, P ok w → P (fun k => ok k ∧ k < w.heap.size) w
def rowT {α : Type} (d : Kd α) (e : Nat) (base : Nat) (v : Value) (xs : List α) : Th :=
  ⟨fun ok w => d.R e w base ok v xs, fun h hm => Kd.R_step h hm, fun h => Kd.R_mono (Kd.R_bound h) (fun _ hk => ⟨hk.1, hk.2.2.1⟩)⟩
def Sep (w0 : World) (L : List Th) (w : World) : Prop :=
  ∃ ok : Nat → Nat → Prop, (∀ (i : Nat) (T : Th), L[i]? = some T → T.P (ok i) w) ∧ (∀ i j b, i ≠ j → ok i b → ¬ ok j b) ∧ (∀ i b, ok i b → w0.heap.size ≤ b ∧ b < w.heap.size) ∧ Below w0.heap.size w0 w
section
variable {w0 w w' : World} {L : List Th} {T T' T2 : Th}
theorem Sep.below (h : Sep w0 L w) : Below w0.heap.size w0 w := by obtain ⟨_, _, _, _, h⟩ := h; exact h
theorem Sep.nil (w0 : World) : Sep w0 [] w0 := ⟨fun _ _ => False, by simp, by simp, by simp, Below.refl _ _⟩
theorem Sep.start (h : Below w0.heap.size w0 w) : Sep w0 [] w := ⟨fun _ _ => False, by simp, by simp, by simp, h⟩
theorem Sep.later (h : Sep w0 L w) (hb : Below w.heap.size w w') : Sep w0 L w' := by
  obtain ⟨ok, h1, h2, h3, h4⟩ := h; exact ⟨ok, fun i T hT => T.loc (h1 i T hT) (fun k _ hlt => hb.block k hlt), h2, fun i b hb' => ⟨(h3 i b hb').1, Nat.lt_of_lt_of_le (h3 i b hb').2 hb.size⟩, below_then h4 h4.size hb⟩
theorem Sep.one (h : Sep w0 L w) (i : Nat) (T : Th) (hi : L[i]? = some T) : ∃ ok : Nat → Prop, T.P ok w := by
  obtain ⟨ok, h1, _⟩ := h; exact ⟨ok i, h1 i T hi⟩
theorem Sep.op2 (h : Sep w0 L w) (i : Nat) (T : Th) (hi : L[i]? = some T) :
    ∃ ok : Nat → Prop, T.P ok w ∧ (∀ b, ok b → w0.heap.size ≤ b) ∧ ∀ (w' : World) (T' T2 : Th) (ok' ok2 : Nat → Prop), T'.P ok' w' → T2.P ok2 w' → (∀ b, ok' b → ok b ∨ w.heap.size ≤ b) → (∀ b, ok2 b → w.heap.size ≤ b) → (∀ b, ok' b → ¬ ok2 b) → Chg ok w w' →
      Sep w0 (L.set i T' ++ [T2]) w' := by
  obtain ⟨ok, h1, h2, h3, h4⟩ := h; refine ⟨ok i, h1 i T hi, fun b hb => (h3 i b hb).1, fun w' T' T2 ok' ok2 p1 p2 hs hs2 hd hc => ⟨fun j b => if j = i then ok' b ∧ b < w'.heap.size else if j = L.length then ok2 b ∧ b < w'.heap.size else ok j b, ?_, ?_, ?_, ?_⟩⟩
  · intro j U hj; have hil : i < L.length := (List.getElem?_eq_some_iff.1 hi).1; rw [List.getElem?_append, List.length_set] at hj; split at hj
    · rename_i hjl; by_cases e : j = i
      · subst e; rw [List.getElem?_set_self hil] at hj; injection hj with hj; subst hj; simp only [if_true]; exact T'.bnd p1
      · rw [List.getElem?_set_ne (Ne.symm e)] at hj; simp only [if_neg e, if_neg (show ¬ j = L.length by omega)]; exact U.loc (h1 j U hj) (fun b hb hlt => hc.keep b hlt (fun hb2 => h2 j i b e hb hb2))
    · rename_i hjl; rcases Nat.lt_or_ge (j - L.length) 1 with h5 | h5
      · (have e : j = L.length := by omega); subst e; simp at hj; subst hj; simp only [if_neg (show ¬ L.length = i by omega), if_true]; exact T2.bnd p2
      · rw [List.getElem?_eq_none (by simpa using h5)] at hj; cases hj
  · intro j l b hjl hj hl; (have old : ∀ m c, ok m c → c < w.heap.size := fun m c hm => (h3 m c hm).2); split at hj
    · split at hl
      · omega
      · split at hl
        · exact hd b hj.1 hl.1
        · rcases hs b hj.1 with h | h
          · rename_i ej el _; exact h2 i l b (Ne.symm el) h hl
          · have := old l b hl; omega
    · rename_i ej; split at hj
      · split at hl
        · exact hd b hl.1 hj.1
        · rename_i el; split at hl
          · omega
          · have := hs2 b hj.1; have := old l b hl; omega
      · split at hl
        · rcases hs b hl.1 with h | h
          · exact h2 j i b ej hj h
          · have := old j b hj; omega
        · split at hl
          · have := hs2 b hl.1; have := old j b hj; omega
          · exact h2 j l b hjl hj hl
  · intro j b hj; split at hj
    · refine ⟨?_, hj.2⟩; rcases hs b hj.1 with h | h
      · exact (h3 i b h).1
      · have := h4.size; omega
    · split at hj
      · have := h4.size; have := hs2 b hj.1; exact ⟨by omega, hj.2⟩
      · exact ⟨(h3 j b hj).1, Nat.lt_of_lt_of_le (h3 j b hj).2 hc.size⟩
  · exact hc.below_of h4 (fun b hb => (h3 i b hb).1)
theorem Sep.init (h : Sep w0 (L ++ [T]) w) : Sep w0 L w := by
  obtain ⟨ok, h1, h2, h3, h4⟩ := h; exact ⟨ok, fun i U hU => h1 i U (by rw [List.getElem?_append_left (List.getElem?_eq_some_iff.1 hU).1]; exact hU), h2, h3, h4⟩
def noT : Th := ⟨fun _ _ => True, fun _ _ => trivial, fun _ => trivial⟩
theorem Sep.op (h : Sep w0 L w) (i : Nat) (T : Th) (hi : L[i]? = some T) :
    ∃ ok : Nat → Prop, T.P ok w ∧ (∀ b, ok b → w0.heap.size ≤ b) ∧ ∀ (w' : World) (T' : Th) (ok' : Nat → Prop), T'.P ok' w' → (∀ b, ok' b → ok b ∨ w.heap.size ≤ b) → Chg ok w w' → Sep w0 (L.set i T') w' := by
  obtain ⟨ok, h1, h2, h3⟩ := h.op2 i T hi; exact ⟨ok, h1, h2, fun w' T' ok' p1 hs hc => (h3 w' T' noT ok' (fun _ => False) p1 trivial hs (fun _ hb => hb.elim) (fun _ _ hb => hb) hc).init⟩
theorem Sep.new (h : Sep w0 L w) (T : Th) {ok : Nat → Prop} (hs : T.P ok w') (hn : ∀ b, ok b → w.heap.size ≤ b) (hb : Below w.heap.size w w') : Sep w0 (L ++ [T]) w' := by
  have hl := h.later hb; obtain ⟨oks, h1, h2, h3, h4⟩ := h; obtain ⟨_, _, _, _, h5⟩ := hl; refine ⟨fun j b => if j = L.length then ok b ∧ b < w'.heap.size else oks j b, ?_, ?_, ?_, h5⟩
  · intro j U hj; rw [List.getElem?_append] at hj; split at hj
    · simp only [if_neg (show ¬ j = L.length by omega)]; exact U.loc (h1 j U hj) (fun b _ hlt => hb.block b hlt)
    · rcases Nat.lt_or_ge (j - L.length) 1 with h6 | h6
      · (have e : j = L.length := by omega); subst e; simp at hj; subst hj; simp only [if_true]; exact T.bnd hs
      · rw [List.getElem?_eq_none (by simpa using h6)] at hj; cases hj
  · intro j l b hjl hj hl; split at hj
    · split at hl
      · omega
      · have := hn b hj.1; have := (h3 l b hl).2; omega
    · split at hl
      · have := hn b hl.1; have := (h3 j b hj).2; omega
      · exact h2 j l b hjl hj hl
  · intro j b hj; split at hj
    · have := h4.size; have := hn b hj.1; exact ⟨by omega, hj.2⟩
    · exact ⟨(h3 j b hj).1, Nat.lt_of_lt_of_le (h3 j b hj).2 hb.size⟩
theorem Sep.row {α : Type} {d : Kd α} {e base : Nat} {v : Value} {xs : List α} (h : Sep w0 L w) (i : Nat) (hi : L[i]? = some (rowT d e base v xs)) :
    ∃ ok : Nat → Prop, d.R e w base ok v xs ∧ (∀ k, w.heap.size ≤ k → ok k) ∧ ∀ (v1 : Value) (w1 : World) (xs1 : List α), d.R e w1 base ok v1 xs1 → w.grownBy w1 v.ownBlock → Sep w0 (L.set i (rowT d e base v1 xs1)) w1 := by
  obtain ⟨ok, h1, h2, h3⟩ := h.op i _ hi; have h1' : d.R e w base ok v xs := h1
  exact ⟨fun b => ok b ∨ w.heap.size ≤ b, Kd.R_mono h1' (fun _ hk => .inl hk), fun _ hk => .inr hk, fun v1 w1 xs1 hr hg =>
    h3 w1 (rowT d e base v1 xs1) _ hr (fun _ hb => hb) ((Chg.refl ok w).grown hg (fun k hk => .inl (h1'.1 k hk)))⟩
theorem Sep.reads {α : Type} {d : Kd α} {e base : Nat} {v : Value} {xs : List α} (h : Sep w0 L w) (i : Nat) (hi : L[i]? = some (rowT d e base v xs)) : ∃ A c, v = .slice A xs.length c ∧ xs.length ≤ c ∧ d.C w A xs.length xs := by
  obtain ⟨ok, h1⟩ := h.one i _ hi; exact Kd.R_reads (show d.R e w base ok v xs from h1)
theorem Sep.empty {α : Type} (d : Kd α) (e base : Nat) (h : Sep w0 L w) : Sep w0 (L ++ [rowT d e base (.slice none 0 0) []]) w :=
  h.new (rowT d e base (.slice none 0 0) []) (ok := fun _ => False) (Kd.R_nil d e w base _) (fun _ h => h.elim) (Below.refl _ _)
end
end Go.Proofs.YthffpkdadffinaaDoor.Fm
namespace Go.Proofs.YthffpkdadffinaaDoor.X
open Go.RowKit YthffpkdadffinaaDoorW.PrintWords YthffpkdadffinaaDoorW.PrintLast YthffpkdadffinaaDoorW.PrintMore
attribute [local go_sem] max2_int min2_int max_two min_two max_three min_three max_four min_four   
set_option linter.unusedVariables false
set_option linter.unusedSimpArgs false
def utf_lead.j0 : Nat → Int → Int → Int → Bool → Option (Int × Int × Int × Int)
 | 0, _, _, _, _ => none
 | k + 1, x0, x4, x5, x13 => if x13 = true then (some (0, 0, x4, x5)) else (if x0 < 224 then (some (2, wrap32 (Go.bits .and .u8 x0 31), x4, x5)) else (if x0 < 240 then (if x0 = 224 then (some (3, wrap32 (Go.bits .and .u8 x0 15), 160, x5)) else (if x0 = 237 then (some (3, wrap32 (Go.bits .and .u8 x0 15), x4, 159)) else (some (3, wrap32 (Go.bits .and .u8 x0 15), x4, x5)))) else (if x0 = 240 then (some (4, wrap32 (Go.bits .and .u8 x0 7), 144, x5)) else (if x0 = 244 then (some (4, wrap32 (Go.bits .and .u8 x0 7), x4, 143)) else (some (4, wrap32 (Go.bits .and .u8 x0 7), x4, x5))))))
def utf_lead.f (k : Nat) (a0 : Int) : Option (Int × Int × Int × Int) := if a0 < 128 then (some (1, wrap32 (a0), 128, 191)) else (if a0 < 194 then (utf_lead.j0 k a0 128 191 true) else (utf_lead.j0 k a0 128 191 (decide (a0 > 244))))
theorem utf_lead.mono_l : ∀ k, (∀ y0 y1 y2 y3, LeO (utf_lead.j0 k y0 y1 y2 y3) (utf_lead.j0 (k + 1) y0 y1 y2 y3))
 | 0 => fun _ _ _ _ r h => by simp [utf_lead.j0] at h
 | k + 1 => by
  have ih0 := utf_lead.mono_l k
  ·intro y0 y1 y2 y3; unfold utf_lead.j0; repeat' first | (with_reducible exact ih0 _ _ _ _) | (with_reducible exact LeO.refl _) | (with_reducible exact LeO.none _) | (with_reducible refine LeO.ite ?_ ?_) | (with_reducible refine LeO.bind ?_ (fun _ => ?_)) | exact ih0 _ _ _ _ | exact LeO.none _ | refine LeO.ite ?_ ?_ | refine LeO.bind ?_ (fun _ => ?_)
theorem utf_lead.mono : ∀ a0 k, LeO (utf_lead.f k a0) (utf_lead.f (k + 1) a0) := by
 intro a0 k; have ih0 := utf_lead.mono_l k; unfold utf_lead.f; repeat' first | (with_reducible exact ih0 _ _ _ _) | (with_reducible exact LeO.refl _) | (with_reducible exact LeO.none _) | (with_reducible refine LeO.ite ?_ ?_) | (with_reducible refine LeO.bind ?_ (fun _ => ?_)) | exact ih0 _ _ _ _ | exact LeO.none _ | refine LeO.ite ?_ ?_ | refine LeO.bind ?_ (fun _ => ?_)
set_option maxHeartbeats 8000000 in
set_option maxRecDepth 100000 in
theorem utf_lead.calls (k : Nat) (a0 : Int) (r1 : Int) (r2 : Int) (r3 : Int) (r4 : Int) (w : World) (h : utf_lead.f k a0 = some (r1, r2, r3, r4)) :
  Calls Tryd.prog 97 #[.int .u8 a0] w fun e w' => e = .returned (.tuple #[.int .i64 r1, .int .i32 r2, .int .u8 r3, .int .u8 r4]) ∧ Drawn0 w w' := by
 have H : (if a0 < 128 then (some (1, wrap32 (a0), 128, 191)) else (if a0 < 194 then (utf_lead.j0 k a0 128 191 true) else (utf_lead.j0 k a0 128 191 (decide (a0 > 244))))) = some (r1, r2, r3, r4) := h; clear h; by_cases c2 : a0 < 128
 ·rw [if_pos c2] at H; have c2b0 : decide (a0 < 128) = true := decide_eq_true c2; clear c2; simp only [Option.some.injEq, Prod.mk.injEq] at H; obtain ⟨rfl, rfl, rfl, rfl⟩ := H; go_enter Tryd.func97, Tryd.ntmps97; go_wp2; refine bodyPost_ret (results_list (rs := [.tmp 2, .tmp 3, .tmp 4, .tmp 5]) rfl (by simp) (.tmp (.tmp (.tmp (.tmp .nil))))) rfl ?_; exact ⟨by first | rfl | (simp; done) | (simp [*]; done), by repeat (first | exact Drawn0.refl _ | apply Drawn0.step)⟩
 ·rw [if_neg c2] at H; have c2b0 : decide (a0 < 128) = false := decide_eq_false c2; clear c2; have HC3 := Aside0.mk H; clear H; go_enter Tryd.func97, Tryd.ntmps97; go_upto_region 4 with (fail); go_cut [13] (fun v13 wc => ∃ (kq : Nat) (x13_2 : Bool), v13 = .bool x13_2 ∧ Aside0 (utf_lead.j0 kq a0 128 191 x13_2 = some (r1, r2, r3, r4)) ∧ Aside0 (kq ≤ k) ∧ Drawn0 w wc)
  case first =>
   have H := HC3.out; clear HC3; by_cases c4 : a0 < 194
   ·rw [if_pos c4] at H; have c4b0 : decide (a0 < 194) = true := decide_eq_true c4; clear c4
    (first | rw [c4b0] | (simp only [i64_w, i32_w]; rw [c4b0]) | skip)
    have H' := Aside0.mk H; clear H; go_wp2; go_meet
    case rel => exact ⟨_, (true), (by first | rfl | (simp; done) | (simp [*]; done)), H', ⟨by first | omega | exact Nat.le_refl _⟩, by repeat (first | exact Drawn0.refl _ | apply Drawn0.step)⟩
   ·rw [if_neg c4] at H; have c4b0 : decide (a0 < 194) = false := decide_eq_false c4; clear c4
    (first | rw [c4b0] | (simp only [i64_w, i32_w]; rw [c4b0]) | skip)
    have H' := Aside0.mk H; clear H; go_wp2; go_meet
    case rel => exact ⟨_, (decide (a0 > 244)), (by first | rfl | (simp; done) | (simp [*]; done)), H', ⟨by first | omega | exact Nat.le_refl _⟩, by repeat (first | exact Drawn0.refl _ | apply Drawn0.step)⟩
  case rest =>
   clear HC3; (try clear c2); (try clear c2b0); (try clear p2); (try clear p3); (try clear c4); (try clear c4b0); obtain ⟨kq, x13_2, rfl, HA, HJ2, ⟨mc2, rfl⟩⟩ := hcut
   cases kq with
   | zero => exact absurd HA.out (by simp [utf_lead.j0])
   | succ kj2 =>
    have H := HA.out; clear HA; simp only [utf_lead.j0] at H; by_cases c5 : x13_2 = true
    ·subst c5; rw [if_pos rfl] at H; simp only [Option.some.injEq, Prod.mk.injEq] at H; obtain ⟨rfl, rfl, rfl, rfl⟩ := H; go_wp2; refine bodyPost_ret (results_list (rs := [.tmp 2, .tmp 3, .tmp 4, .tmp 5]) rfl (by simp) (.tmp (.tmp (.tmp (.tmp .nil))))) rfl ?_; exact ⟨by first | rfl | (simp; done) | (simp [*]; done), by repeat (first | exact Drawn0.refl _ | apply Drawn0.step)⟩
    ·replace c5 := Bool.eq_false_iff.mpr c5; subst c5; rw [if_neg (show ¬ (false = true) by decide)] at H; by_cases c6 : a0 < 224
     ·rw [if_pos c6] at H; have c6b0 : decide (a0 < 224) = true := decide_eq_true c6; clear c6; simp only [Option.some.injEq, Prod.mk.injEq] at H; obtain ⟨rfl, rfl, rfl, rfl⟩ := H; go_wp2; refine bodyPost_ret (results_list (rs := [.tmp 2, .tmp 3, .tmp 4, .tmp 5]) rfl (by simp) (.tmp (.tmp (.tmp (.tmp .nil))))) rfl ?_; exact ⟨by first | rfl | (simp; done) | (simp [*]; done), by repeat (first | exact Drawn0.refl _ | apply Drawn0.step)⟩
     ·rw [if_neg c6] at H; have c6b0 : decide (a0 < 224) = false := decide_eq_false c6; clear c6; by_cases c7 : a0 < 240
      ·rw [if_pos c7] at H; have c7b0 : decide (a0 < 240) = true := decide_eq_true c7; clear c7; by_cases c8 : a0 = 224
       ·rw [if_pos c8] at H; have c8b0 : (a0 == 224) = true := beq_iff_eq.mpr c8; have c8b1 : (a0 != 224) = false := bne_eq_false_iff_eq.mpr c8; clear c8; simp only [Option.some.injEq, Prod.mk.injEq] at H; obtain ⟨rfl, rfl, rfl, rfl⟩ := H; go_wp2; refine bodyPost_ret (results_list (rs := [.tmp 2, .tmp 3, .tmp 4, .tmp 5]) rfl (by simp) (.tmp (.tmp (.tmp (.tmp .nil))))) rfl ?_; exact ⟨by first | rfl | (simp; done) | (simp [*]; done), by repeat (first | exact Drawn0.refl _ | apply Drawn0.step)⟩
       ·rw [if_neg c8] at H; have c8b0 : (a0 == 224) = false := beq_eq_false_iff_ne.mpr c8; have c8b1 : (a0 != 224) = true := bne_iff_ne.mpr c8; by_cases c9 : a0 = 237
        ·rw [if_pos c9] at H; have c9b0 : (a0 == 237) = true := beq_iff_eq.mpr c9; have c9b1 : (a0 != 237) = false := bne_eq_false_iff_eq.mpr c9; clear c9; simp only [Option.some.injEq, Prod.mk.injEq] at H; obtain ⟨rfl, rfl, rfl, rfl⟩ := H; go_wp2; refine bodyPost_ret (results_list (rs := [.tmp 2, .tmp 3, .tmp 4, .tmp 5]) rfl (by simp) (.tmp (.tmp (.tmp (.tmp .nil))))) rfl ?_; exact ⟨by first | rfl | (simp; done) | (simp [*]; done), by repeat (first | exact Drawn0.refl _ | apply Drawn0.step)⟩
        ·rw [if_neg c9] at H; have c9b0 : (a0 == 237) = false := beq_eq_false_iff_ne.mpr c9; have c9b1 : (a0 != 237) = true := bne_iff_ne.mpr c9; simp only [Option.some.injEq, Prod.mk.injEq] at H; obtain ⟨rfl, rfl, rfl, rfl⟩ := H; go_wp2; refine bodyPost_ret (results_list (rs := [.tmp 2, .tmp 3, .tmp 4, .tmp 5]) rfl (by simp) (.tmp (.tmp (.tmp (.tmp .nil))))) rfl ?_; exact ⟨by first | rfl | (simp; done) | (simp [*]; done), by repeat (first | exact Drawn0.refl _ | apply Drawn0.step)⟩
      ·rw [if_neg c7] at H; have c7b0 : decide (a0 < 240) = false := decide_eq_false c7; clear c7; by_cases c10 : a0 = 240
       ·rw [if_pos c10] at H; have c10b0 : (a0 == 240) = true := beq_iff_eq.mpr c10; have c10b1 : (a0 != 240) = false := bne_eq_false_iff_eq.mpr c10; clear c10; simp only [Option.some.injEq, Prod.mk.injEq] at H; obtain ⟨rfl, rfl, rfl, rfl⟩ := H; go_wp2; refine bodyPost_ret (results_list (rs := [.tmp 2, .tmp 3, .tmp 4, .tmp 5]) rfl (by simp) (.tmp (.tmp (.tmp (.tmp .nil))))) rfl ?_; exact ⟨by first | rfl | (simp; done) | (simp [*]; done), by repeat (first | exact Drawn0.refl _ | apply Drawn0.step)⟩
       ·rw [if_neg c10] at H; have c10b0 : (a0 == 240) = false := beq_eq_false_iff_ne.mpr c10; have c10b1 : (a0 != 240) = true := bne_iff_ne.mpr c10; by_cases c11 : a0 = 244
        ·rw [if_pos c11] at H; have c11b0 : (a0 == 244) = true := beq_iff_eq.mpr c11; have c11b1 : (a0 != 244) = false := bne_eq_false_iff_eq.mpr c11; clear c11; simp only [Option.some.injEq, Prod.mk.injEq] at H; obtain ⟨rfl, rfl, rfl, rfl⟩ := H; go_wp2; refine bodyPost_ret (results_list (rs := [.tmp 2, .tmp 3, .tmp 4, .tmp 5]) rfl (by simp) (.tmp (.tmp (.tmp (.tmp .nil))))) rfl ?_; exact ⟨by first | rfl | (simp; done) | (simp [*]; done), by repeat (first | exact Drawn0.refl _ | apply Drawn0.step)⟩
        ·rw [if_neg c11] at H; have c11b0 : (a0 == 244) = false := beq_eq_false_iff_ne.mpr c11; have c11b1 : (a0 != 244) = true := bne_iff_ne.mpr c11; simp only [Option.some.injEq, Prod.mk.injEq] at H; obtain ⟨rfl, rfl, rfl, rfl⟩ := H; go_wp2; refine bodyPost_ret (results_list (rs := [.tmp 2, .tmp 3, .tmp 4, .tmp 5]) rfl (by simp) (.tmp (.tmp (.tmp (.tmp .nil))))) rfl ?_; exact ⟨by first | rfl | (simp; done) | (simp [*]; done), by repeat (first | exact Drawn0.refl _ | apply Drawn0.step)⟩
end Go.Proofs.YthffpkdadffinaaDoor.X
