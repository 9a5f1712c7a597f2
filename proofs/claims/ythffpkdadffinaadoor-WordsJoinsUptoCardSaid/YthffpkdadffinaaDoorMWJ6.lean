/-
  Several texts of this claim in one: what its law's proof uses.
-/
import Derived.Test.YthffpkdadffinaaDoorMWJ2
import Derived.Test.YthffpkdadffinaaDoorMWJ5
import Derived.Test.YthffpkdadffinaaDoorMWJ4
import Derived.Test.YthffpkdadffinaaDoorMWJ3
namespace Go.Proofs.YthffpkdadffinaaDoor.X
open Go.RowKit YthffpkdadffinaaDoorW.PrintWords YthffpkdadffinaaDoorW.PrintLast YthffpkdadffinaaDoorW.PrintMore
attribute [local go_sem] max2_int min2_int max_two min_two max_three min_three max_four min_four   
set_option linter.unusedVariables false
set_option linter.unusedSimpArgs false
mutual
def tremaref02_Decompose.l0 : Nat → List Int → Option (List Int)
 | 0, _ => none
 | k + 1, x3 => tremaref02_Decompose.l1 k x3 (-1) 0 0 0 0
def tremaref02_Decompose.l1 : Nat → List Int → Int → Int → Int → Int → Int → Option (List Int)
 | 0, _, _, _, _, _, _ => none
 | k + 1, x3, x4, x5, x6, x7, x8 => if x8 < (x3.length : Int) then (tremaref02_Decompose.j2 k x3 x4 x5 x6 x7 x8 (decide (x4 < 0))) else (tremaref02_Decompose.j2 k x3 x4 x5 x6 x7 x8 false)
def tremaref02_Decompose.j2 : Nat → List Int → Int → Int → Int → Int → Int → Bool → Option (List Int)
 | 0, _, _, _, _, _, _, _ => none
 | k + 1, x3, x4, x5, x6, x7, x8, x23 => if x23 = true then (if 0 ≤ x8 then (if x8 < (x3.length : Int) then ((tremaref02_Pair.f (rd x3 x8)).bind fun bt134 => (if bt134.2.2 > 0 then (tremaref02_Decompose.l1 k x3 x8 bt134.1 bt134.2.1 bt134.2.2 (wrap64 (x8 + 1))) else (tremaref02_Decompose.l1 k x3 x4 x5 x6 x7 (wrap64 (x8 + 1))))) else (none)) else (none)) else (if x4 < 0 then (some x3) else (tremaref02_Decompose.l2 k x3 x4 x5 x6 x7 ([] : List Int) 0))
def tremaref02_Decompose.l2 : Nat → List Int → Int → Int → Int → Int → List Int → Int → Option (List Int)
 | 0, _, _, _, _, _, _, _ => none
 | k + 1, x3, x4, x5, x6, x7, x12, x13 => if x13 < (x3.length : Int) then (if x13 = x4 then (if x7 = 1 then (if x12.length < 35184372088832 then (tremaref02_Decompose.l2 k x3 x4 x5 x6 x7 (x12 ++ [x5]) (wrap64 (x13 + 1))) else (none)) else ((some (([x5, x6] : List Int) : List Int)).bind fun y140 => (if x12.length + y140.length < 35184372088832 then (tremaref02_Decompose.l2 k x3 x4 x5 x6 x7 (x12 ++ y140) (wrap64 (x13 + 1))) else (none)))) else (if 0 ≤ x13 then (if x12.length < 35184372088832 then (tremaref02_Decompose.l2 k x3 x4 x5 x6 x7 (x12 ++ [rd x3 x13]) (wrap64 (x13 + 1))) else (none)) else (none))) else (tremaref02_Decompose.l0 k x12)
end
def tremaref02_Decompose.f (k : Nat) (a0 : Int) : Option (List Int) := tremaref02_Decompose.l0 k (([a0] : List Int))
theorem tremaref02_Decompose.mono_l : ∀ k, (∀ y0, LeO (tremaref02_Decompose.l0 k y0) (tremaref02_Decompose.l0 (k + 1) y0)) ∧ (∀ y0 y1 y2 y3 y4 y5, LeO (tremaref02_Decompose.l1 k y0 y1 y2 y3 y4 y5) (tremaref02_Decompose.l1 (k + 1) y0 y1 y2 y3 y4 y5)) ∧ (∀ y0 y1 y2 y3 y4 y5 y6, LeO (tremaref02_Decompose.j2 k y0 y1 y2 y3 y4 y5 y6) (tremaref02_Decompose.j2 (k + 1) y0 y1 y2 y3 y4 y5 y6)) ∧ (∀ y0 y1 y2 y3 y4 y5 y6, LeO (tremaref02_Decompose.l2 k y0 y1 y2 y3 y4 y5 y6) (tremaref02_Decompose.l2 (k + 1) y0 y1 y2 y3 y4 y5 y6))
 | 0 => ⟨fun _ r h => by simp [tremaref02_Decompose.l0] at h, fun _ _ _ _ _ _ r h => by simp [tremaref02_Decompose.l1] at h, fun _ _ _ _ _ _ _ r h => by simp [tremaref02_Decompose.j2] at h, fun _ _ _ _ _ _ _ r h => by simp [tremaref02_Decompose.l2] at h⟩
 | k + 1 => by
  obtain ⟨ih0, ih1, ih2, ih3⟩ := tremaref02_Decompose.mono_l k; refine ⟨?_, ?_, ?_, ?_⟩
  ·intro y0; unfold tremaref02_Decompose.l0; repeat' first | (with_reducible exact ih0 _) | (with_reducible exact ih1 _ _ _ _ _ _) | (with_reducible exact ih2 _ _ _ _ _ _ _) | (with_reducible exact ih3 _ _ _ _ _ _ _) | (with_reducible exact LeO.refl _) | (with_reducible exact LeO.none _) | (with_reducible refine LeO.ite ?_ ?_) | (with_reducible refine LeO.bind ?_ (fun _ => ?_)) | exact ih0 _ | exact ih1 _ _ _ _ _ _ | exact ih2 _ _ _ _ _ _ _ | exact ih3 _ _ _ _ _ _ _ | exact LeO.none _ | refine LeO.ite ?_ ?_ | refine LeO.bind ?_ (fun _ => ?_)
  ·intro y0 y1 y2 y3 y4 y5; unfold tremaref02_Decompose.l1; repeat' first | (with_reducible exact ih0 _) | (with_reducible exact ih1 _ _ _ _ _ _) | (with_reducible exact ih2 _ _ _ _ _ _ _) | (with_reducible exact ih3 _ _ _ _ _ _ _) | (with_reducible exact LeO.refl _) | (with_reducible exact LeO.none _) | (with_reducible refine LeO.ite ?_ ?_) | (with_reducible refine LeO.bind ?_ (fun _ => ?_)) | exact ih0 _ | exact ih1 _ _ _ _ _ _ | exact ih2 _ _ _ _ _ _ _ | exact ih3 _ _ _ _ _ _ _ | exact LeO.none _ | refine LeO.ite ?_ ?_ | refine LeO.bind ?_ (fun _ => ?_)
  ·intro y0 y1 y2 y3 y4 y5 y6; unfold tremaref02_Decompose.j2; repeat' first | (with_reducible exact ih0 _) | (with_reducible exact ih1 _ _ _ _ _ _) | (with_reducible exact ih2 _ _ _ _ _ _ _) | (with_reducible exact ih3 _ _ _ _ _ _ _) | (with_reducible exact LeO.refl _) | (with_reducible exact LeO.none _) | (with_reducible refine LeO.ite ?_ ?_) | (with_reducible refine LeO.bind ?_ (fun _ => ?_)) | exact ih0 _ | exact ih1 _ _ _ _ _ _ | exact ih2 _ _ _ _ _ _ _ | exact ih3 _ _ _ _ _ _ _ | exact LeO.none _ | refine LeO.ite ?_ ?_ | refine LeO.bind ?_ (fun _ => ?_)
  ·intro y0 y1 y2 y3 y4 y5 y6; unfold tremaref02_Decompose.l2; repeat' first | (with_reducible exact ih0 _) | (with_reducible exact ih1 _ _ _ _ _ _) | (with_reducible exact ih2 _ _ _ _ _ _ _) | (with_reducible exact ih3 _ _ _ _ _ _ _) | (with_reducible exact LeO.refl _) | (with_reducible exact LeO.none _) | (with_reducible refine LeO.ite ?_ ?_) | (with_reducible refine LeO.bind ?_ (fun _ => ?_)) | exact ih0 _ | exact ih1 _ _ _ _ _ _ | exact ih2 _ _ _ _ _ _ _ | exact ih3 _ _ _ _ _ _ _ | exact LeO.none _ | refine LeO.ite ?_ ?_ | refine LeO.bind ?_ (fun _ => ?_)
theorem tremaref02_Decompose.mono : ∀ a0 k, LeO (tremaref02_Decompose.f k a0) (tremaref02_Decompose.f (k + 1) a0) := by
 intro a0 k; obtain ⟨ih0, ih1, ih2, ih3⟩ := tremaref02_Decompose.mono_l k; unfold tremaref02_Decompose.f; repeat' first | (with_reducible exact ih0 _) | (with_reducible exact ih1 _ _ _ _ _ _) | (with_reducible exact ih2 _ _ _ _ _ _ _) | (with_reducible exact ih3 _ _ _ _ _ _ _) | (with_reducible exact LeO.refl _) | (with_reducible exact LeO.none _) | (with_reducible refine LeO.ite ?_ ?_) | (with_reducible refine LeO.bind ?_ (fun _ => ?_)) | exact ih0 _ | exact ih1 _ _ _ _ _ _ | exact ih2 _ _ _ _ _ _ _ | exact ih3 _ _ _ _ _ _ _ | exact LeO.none _ | refine LeO.ite ?_ ?_ | refine LeO.bind ?_ (fun _ => ?_)
set_option maxHeartbeats 8000000 in
set_option maxRecDepth 100000 in
theorem tremaref02_Decompose.calls (k : Nat) (a0 : Int) (r : List Int) (w : World) (h : tremaref02_Decompose.f k a0 = some r) :
  Calls Tryd.prog 77 #[.int .i32 a0] w fun e w' => ∃ v0_ : Value, e = .returned (v0_) ∧ Kd.R (Kd.int .i32) 21 w' w.heap.size (fun _ => True) v0_ r ∧ Below w.heap.size w w' := by
 have HB := Aside0.mk (Below.refl w.heap.size w); have H : (tremaref02_Decompose.l0 k (([a0] : List Int))) = some r := h; clear h; obtain ⟨y130, hy130⟩ : ∃ y_ : List Int, y_ = (([a0] : List Int)) := ⟨_, rfl⟩; (replace H : (tremaref02_Decompose.l0 k y130) = some r := by first | (rw [hy130]; with_reducible exact H) | (have H2_ := (Option.bind_some _ _).symm.trans H; rw [hy130]; with_reducible exact H2_) | (have H2_ := (Option.bind_some _ _).symm.trans H; with_reducible exact H2_) | with_reducible exact H | (rw [hy130]; exact H) | exact H); have Ny130 := Aside0.mk hy130; clear hy130; have H' := Aside0.mk H; clear H; go_enter Tryd.func77, Tryd.ntmps77; go_wp2_with (first | ((with_reducible refine gate_dst (N := 15) rfl ?_); refine Kd.R_lit (Kd.int .i32) _ 21 ?hg (N := 15) ?hd (xs := ([a0] : List Int)) (inner := [.int .i32 a0]) (ok := fun _ => True) (okp := fun _ => True) ?hr ?hp (fun _ hk => hk) trivial (Below.refl _ _) (Nat.le_refl _) (by simp) ?_; (case hd => rfl); (case hg => rfl); (case hr => first | (go_simp; done) | (go_simp; rfl)); (case hp => exact (Reps.one (show Kd.M (Kd.int .i32) _ _ _ a0 [.int .i32 a0] from rfl) (Reps.none _ _))); intro v131 w2 ho3 hb hg_ hnew_; clear hg_ hnew_; (first | rw [← Ny130.out] at ho3 | (simp only [Int.reduceToNat] at ho3; rw [← Ny130.out] at ho3)); have n0_ := Aside0.mk (Kd.R_lower ho3 (below_size (by repeat (first | (with_reducible first | exact HB.out | apply below_alloc | apply pw_below_drewN | apply below_drew1) | exact HB.out)))); have n1_ := Aside0.mk (below_step (by repeat (first | (with_reducible first | exact HB.out | apply below_alloc | apply pw_below_drewN | apply below_drew1) | exact HB.out)) hb); clear HB; have HO132 := n0_; have HB := n1_; clear n0_ n1_; clear hb ho3)); go_loopg [3] k (fun kq v3 w' => ∃ (x3_1 : List Int), Aside0 (tremaref02_Decompose.l0 kq x3_1 = some r) ∧ Aside0 (kq ≤ k) ∧ Aside0 (Kd.R (Kd.int .i32) 21 w' w.heap.size (fun _ => True) v3 x3_1) ∧ Aside0 (Below w.heap.size w w'))
 case atStart => exact ⟨(y130), H', ⟨Nat.le_refl _⟩, ⟨by (with_reducible repeat (first | apply Kd.R_alloc | apply Kd.R_drewN | apply Kd.R_drew)); exact HO132.out⟩, ⟨by repeat (first | (with_reducible first | exact HB.out | apply below_alloc | apply pw_below_drewN | apply below_drew1) | exact HB.out)⟩⟩
 case round =>
  clear H'; (try clear p2); obtain ⟨x3_1, HA, HK1, HO_3, HB⟩ := hrel
  cases gk with
  | zero => exact absurd HA.out (by simp [tremaref02_Decompose.l0])
  | succ k1 =>
   have H := HA.out; clear HA; simp only [tremaref02_Decompose.l0] at H; have H' := Aside0.mk H; clear H; go_wp2; go_loopg [4, 5, 6, 7, 8] k1 (fun kq v4 v5 v6 v7 v8 w' => ∃ (x4_2 : Int) (x5_2 : Int) (x6_2 : Int) (x7_2 : Int) (x8_2 : Int), v4 = .int .i64 x4_2 ∧ v5 = .int .i32 x5_2 ∧ v6 = .int .i32 x6_2 ∧ v7 = .int .i64 x7_2 ∧ v8 = .int .i64 x8_2 ∧ Aside0 (tremaref02_Decompose.l1 kq x3_1 x4_2 x5_2 x6_2 x7_2 x8_2 = some r) ∧ Aside0 (kq ≤ k1) ∧ Aside0 (Kd.R (Kd.int .i32) 21 w' w.heap.size (fun _ => True) u3 x3_1) ∧ Aside0 (Below w.heap.size w w'))
   case atStart => exact ⟨((-1)), (0), (0), (0), (0), (by first | rfl | (simp; done) | (simp [*]; done)), (by first | rfl | (simp; done) | (simp [*]; done)), (by first | rfl | (simp; done) | (simp [*]; done)), (by first | rfl | (simp; done) | (simp [*]; done)), (by first | rfl | (simp; done) | (simp [*]; done)), H', ⟨Nat.le_refl _⟩, ⟨by (with_reducible repeat (first | apply Kd.R_alloc | apply Kd.R_drewN | apply Kd.R_drew)); exact HO_3.out⟩, ⟨by repeat (first | (with_reducible first | exact HB.out | apply below_alloc | apply pw_below_drewN | apply below_drew1) | exact HB.out)⟩⟩
   case round =>
    clear H'; (try clear p2); (try clear p2); obtain ⟨x4_2, x5_2, x6_2, x7_2, x8_2, rfl, rfl, rfl, rfl, rfl, HA, HK2, HO_3, HB⟩ := hrel
    cases gk with
    | zero => exact absurd HA.out (by simp [tremaref02_Decompose.l1])
    | succ k2 =>
     have H := HA.out; clear HA; simp only [tremaref02_Decompose.l1] at H; have HC4 := Aside0.mk H; clear H; go_upto_region 4 with (fail); go_cut [23] (fun v23 wc => ∃ (kq : Nat) (x23_3 : Bool), v23 = .bool x23_3 ∧ Aside0 (tremaref02_Decompose.j2 kq x3_1 x4_2 x5_2 x6_2 x7_2 x8_2 x23_3 = some r) ∧ Aside0 (kq ≤ k2) ∧ Aside0 (Kd.R (Kd.int .i32) 21 wc w.heap.size (fun _ => True) u3 x3_1) ∧ Aside0 (Below w.heap.size w wc))
     case first =>
      have H := HC4.out; clear HC4; by_cases c5 : x8_2 < (x3_1.length : Int)
      ·rw [if_pos c5] at H; have c5b0 : decide (x8_2 < (x3_1.length : Int)) = true := decide_eq_true c5; clear c5
       (first | rw [c5b0] | (simp only [i64_w, i32_w]; rw [c5b0]) | skip)
       have H' := Aside0.mk H; clear H; obtain ⟨Ao6, co6, eo6⟩ := Kd.R_slice HO_3.out; subst eo6; go_wp2; go_meet
       case rel => exact ⟨_, (decide (x4_2 < 0)), (by first | rfl | (simp; done) | (simp [*]; done)), H', ⟨by have := HK1.out; have := HK2.out; first | omega | exact Nat.le_refl _⟩, ⟨by (with_reducible repeat (first | apply Kd.R_alloc | apply Kd.R_drewN | apply Kd.R_drew)); exact HO_3.out⟩, ⟨by repeat (first | (with_reducible first | exact HB.out | apply below_alloc | apply pw_below_drewN | apply below_drew1) | exact HB.out)⟩⟩
      ·rw [if_neg c5] at H; have c5b0 : decide (x8_2 < (x3_1.length : Int)) = false := decide_eq_false c5; clear c5
       (first | rw [c5b0] | (simp only [i64_w, i32_w]; rw [c5b0]) | skip)
       have H' := Aside0.mk H; clear H; obtain ⟨Ao7, co7, eo7⟩ := Kd.R_slice HO_3.out; subst eo7; go_wp2; go_meet
       case rel => exact ⟨_, (false), (by first | rfl | (simp; done) | (simp [*]; done)), H', ⟨by have := HK1.out; have := HK2.out; first | omega | exact Nat.le_refl _⟩, ⟨by (with_reducible repeat (first | apply Kd.R_alloc | apply Kd.R_drewN | apply Kd.R_drew)); exact HO_3.out⟩, ⟨by repeat (first | (with_reducible first | exact HB.out | apply below_alloc | apply pw_below_drewN | apply below_drew1) | exact HB.out)⟩⟩
     case rest =>
      clear HC4; (try clear p2); (try clear c5); (try clear c5b0); (try clear c7); (try clear p2); obtain ⟨kq, x23_3, rfl, HA, HJ3, HO_3, HB⟩ := hcut
      cases kq with
      | zero => exact absurd HA.out (by simp [tremaref02_Decompose.j2])
      | succ kj3 =>
       have H := HA.out; clear HA; simp only [tremaref02_Decompose.j2] at H; by_cases c8 : x23_3 = true
       ·subst c8; rw [if_pos rfl] at H; by_cases c9 : 0 ≤ x8_2
        ·rw [if_pos c9] at H; have c9b0 : decide (0 ≤ x8_2) = true := decide_eq_true c9; clear c9; by_cases c10 : x8_2 < (x3_1.length : Int)
         ·rw [if_pos c10] at H; have c10b0 : decide (x8_2 < (x3_1.length : Int)) = true := decide_eq_true c10; clear c10; replace H := Option.bind_eq_some_iff.mp H; obtain ⟨⟨t134, t135, t136⟩, A110, H⟩ := H; (try dsimp only at H); have A11 := Aside0.mk A110; clear A110; by_cases c12 : t136 > 0
          ·rw [if_pos c12] at H; have c12b0 : decide (0 < t136) = true := decide_eq_true c12; clear c12; have H' := Aside0.mk H; clear H; obtain ⟨Ao13, co13, eo13⟩ := Kd.R_slice HO_3.out; subst eo13; have p133 : 0 ≤ (x8_2 : Int) := of_decide_eq_true (by first | (with_reducible assumption) | assumption); have q133 : x8_2 < (x3_1.length : Int) := of_decide_eq_true (by first | (with_reducible assumption) | assumption); obtain ⟨ad133, e133, hx133_0⟩ := Kd.at_int (Kd.R_reads' HO_3.out).2.2 x8_2 p133 q133; cases e133; replace p133 := eq_true p133; replace q133 := eq_true q133; go_wp2_with (first | ((with_reducible refine gate_callee (f := 96) rfl ?_); refine goesL_ (some 31) rfl rfl Tryd.func96 (by kernel_rfl) rfl #[.int .i32 (rd x3_1 x8_2)] rfl (by (try simp only [List.map_toArray, List.map_cons, List.map_nil]); first | done | rfl | (simp only [List.length_drop, List.length_take]; rfl)) ?_; (with_reducible refine (tremaref02_Pair.calls (rd x3_1 x8_2) t134 t135 t136 _ A11.out).mono ?_); rintro e w14 ⟨rfl, hb⟩; refine ⟨_, rfl, ?_⟩; have n0_ := Aside0.mk (Kd.R_below (by (with_reducible repeat (first | apply Kd.R_alloc | apply Kd.R_drewN | apply Kd.R_drew)); exact HO_3.out) hb); have n1_ := Aside0.mk (below_step (by repeat (first | (with_reducible first | exact HB.out | apply below_alloc | apply pw_below_drewN | apply below_drew1) | exact HB.out)) hb); clear HO_3; clear HB; have HO_3 := n0_; have HB := n1_; clear n0_ n1_; (try clear hb); (try clear hb2); (try clear hk); (try clear hi))); go_roundg kj3
           case measure => have := HK1.out; have := HK2.out; have := HJ3.out; omega
           case rel => exact ⟨(x8_2), (t134), (t135), (t136), (wrap64 (x8_2 + 1)), (by first | rfl | (simp; done) | (simp [*]; done)), (by first | rfl | (simp; done) | (simp [*]; done)), (by first | rfl | (simp; done) | (simp [*]; done)), (by first | rfl | (simp; done) | (simp [*]; done)), (by first | rfl | (simp; done) | (simp [*]; done)), H', ⟨by have := HK1.out; have := HK2.out; have := HJ3.out; omega⟩, ⟨by (with_reducible repeat (first | apply Kd.R_alloc | apply Kd.R_drewN | apply Kd.R_drew)); exact HO_3.out⟩, ⟨by repeat (first | (with_reducible first | exact HB.out | apply below_alloc | apply pw_below_drewN | apply below_drew1) | exact HB.out)⟩⟩
          ·rw [if_neg c12] at H; have c12b0 : decide (0 < t136) = false := decide_eq_false c12; clear c12; have H' := Aside0.mk H; clear H; obtain ⟨Ao15, co15, eo15⟩ := Kd.R_slice HO_3.out; subst eo15; have p133 : 0 ≤ (x8_2 : Int) := of_decide_eq_true (by first | (with_reducible assumption) | assumption); have q133 : x8_2 < (x3_1.length : Int) := of_decide_eq_true (by first | (with_reducible assumption) | assumption); obtain ⟨ad133, e133, hx133_0⟩ := Kd.at_int (Kd.R_reads' HO_3.out).2.2 x8_2 p133 q133; cases e133; replace p133 := eq_true p133; replace q133 := eq_true q133; go_wp2_with (first | ((with_reducible refine gate_callee (f := 96) rfl ?_); refine goesL_ (some 31) rfl rfl Tryd.func96 (by kernel_rfl) rfl #[.int .i32 (rd x3_1 x8_2)] rfl (by (try simp only [List.map_toArray, List.map_cons, List.map_nil]); first | done | rfl | (simp only [List.length_drop, List.length_take]; rfl)) ?_; (with_reducible refine (tremaref02_Pair.calls (rd x3_1 x8_2) t134 t135 t136 _ A11.out).mono ?_); rintro e w16 ⟨rfl, hb⟩; refine ⟨_, rfl, ?_⟩; have n0_ := Aside0.mk (Kd.R_below (by (with_reducible repeat (first | apply Kd.R_alloc | apply Kd.R_drewN | apply Kd.R_drew)); exact HO_3.out) hb); have n1_ := Aside0.mk (below_step (by repeat (first | (with_reducible first | exact HB.out | apply below_alloc | apply pw_below_drewN | apply below_drew1) | exact HB.out)) hb); clear HO_3; clear HB; have HO_3 := n0_; have HB := n1_; clear n0_ n1_; (try clear hb); (try clear hb2); (try clear hk); (try clear hi))); go_roundg kj3
           case measure => have := HK1.out; have := HK2.out; have := HJ3.out; omega
           case rel => exact ⟨(x4_2), (x5_2), (x6_2), (x7_2), (wrap64 (x8_2 + 1)), (by first | rfl | (simp; done) | (simp [*]; done)), (by first | rfl | (simp; done) | (simp [*]; done)), (by first | rfl | (simp; done) | (simp [*]; done)), (by first | rfl | (simp; done) | (simp [*]; done)), (by first | rfl | (simp; done) | (simp [*]; done)), H', ⟨by have := HK1.out; have := HK2.out; have := HJ3.out; omega⟩, ⟨by (with_reducible repeat (first | apply Kd.R_alloc | apply Kd.R_drewN | apply Kd.R_drew)); exact HO_3.out⟩, ⟨by repeat (first | (with_reducible first | exact HB.out | apply below_alloc | apply pw_below_drewN | apply below_drew1) | exact HB.out)⟩⟩
         ·rw [if_neg c10] at H; exact absurd H (by simp)
        ·rw [if_neg c9] at H; exact absurd H (by simp)
       ·replace c8 := Bool.eq_false_iff.mpr c8; subst c8; rw [if_neg (show ¬ (false = true) by decide)] at H; by_cases c17 : x4_2 < 0
        ·rw [if_pos c17] at H; have c17b0 : decide (x4_2 < 0) = true := decide_eq_true c17; clear c17; obtain rfl := Option.some.inj H; go_wp2; go_ret; exact ⟨_, by first | rfl | (simp [errW_none, errW_some] <;> rfl) | (simp [*, errW_none, errW_some] <;> rfl), by (with_reducible repeat (first | apply Kd.R_alloc | apply Kd.R_drewN | apply Kd.R_drew)); exact HO_3.out, by repeat (first | (with_reducible first | exact HB.out | apply below_alloc | apply pw_below_drewN | apply below_drew1) | exact HB.out)⟩
        ·rw [if_neg c17] at H; have c17b0 : decide (x4_2 < 0) = false := decide_eq_false c17; clear c17; have H' := Aside0.mk H; clear H; go_wp2; go_loopg [12, 13] kj3 (fun kq v12 v13 w' => ∃ (x12_4 : List Int) (x13_4 : Int), v13 = .int .i64 x13_4 ∧ Aside0 (tremaref02_Decompose.l2 kq x3_1 x4_2 x5_2 x6_2 x7_2 x12_4 x13_4 = some r) ∧ Aside0 (kq ≤ kj3) ∧ Aside0 (Kd.R (Kd.int .i32) 21 w' w.heap.size (fun k_ => some k_ ≠ (v12 : Value).ownBlock) u3 x3_1) ∧ Aside0 (Kd.R (Kd.int .i32) 21 w' w.heap.size (fun k_ => some k_ ≠ (u3 : Value).ownBlock) v12 x12_4) ∧ Aside0 (Below w.heap.size w w'))
         case atStart => exact ⟨(([] : List Int)), (0), (by first | rfl | (simp; done) | (simp [*]; done)), H', ⟨Nat.le_refl _⟩, ⟨by (with_reducible repeat (first | apply Kd.R_alloc | apply Kd.R_drewN | apply Kd.R_drew)); exact Kd.R_mono HO_3.out (fun _ hk => (by simp [Value.ownBlock]))⟩, ⟨by first | exact Kd.R_nil _ _ _ _ _ | exact Kd.N_nil _ _ _ _ _ | exact Kd.V_nil _ _ _ _ _ | exact Kd.Q_nil _ _ _ _ _ | exact Kd.S_nil _ _ _ _ _⟩, ⟨by repeat (first | (with_reducible first | exact HB.out | apply below_alloc | apply pw_below_drewN | apply below_drew1) | exact HB.out)⟩⟩
         case round =>
          clear H'; (try clear c1); (try clear p1); (try clear q1); (try clear hx1); (try clear p2); (try clear c5); (try clear c5b0); (try clear p6); (try clear c7); (try clear c8); (try clear c9); (try clear c9b0); (try clear c10); (try clear c10b0); (try clear c12); (try clear c12b0); (try clear p13); (try clear q13); (try clear hx13); (try clear c17); (try clear c17b0); (try clear hx133_0); (try clear p133); (try clear p2); (try clear q133); obtain ⟨x12_4, x13_4, rfl, HA, HK4, HO_3, HO_12, HB⟩ := hrel
          cases gk with
          | zero => exact absurd HA.out (by simp [tremaref02_Decompose.l2])
          | succ k4 =>
           have H := HA.out; clear HA; simp only [tremaref02_Decompose.l2] at H; by_cases c18 : x13_4 < (x3_1.length : Int)
           ·rw [if_pos c18] at H; have c18b0 : decide (x13_4 < (x3_1.length : Int)) = true := decide_eq_true c18; clear c18; by_cases c19 : x13_4 = x4_2
            ·rw [if_pos c19] at H; have c19b0 : (x13_4 == x4_2) = true := beq_iff_eq.mpr c19; have c19b1 : (x13_4 != x4_2) = false := bne_eq_false_iff_eq.mpr c19; clear c19; by_cases c20 : x7_2 = 1
             ·rw [if_pos c20] at H; have c20b0 : (x7_2 == 1) = true := beq_iff_eq.mpr c20; have c20b1 : (x7_2 != 1) = false := bne_eq_false_iff_eq.mpr c20; clear c20; by_cases c21 : x12_4.length < 35184372088832
              ·rw [if_pos c21] at H; have LMc21 := Aside0.mk c21; clear c21; obtain ⟨y137, hy137⟩ : ∃ y_ : List Int, y_ = (x12_4 ++ [x5_2]) := ⟨_, rfl⟩; (replace H : (tremaref02_Decompose.l2 k4 x3_1 x4_2 x5_2 x6_2 x7_2 y137 (wrap64 (x13_4 + 1))) = some r := by first | (rw [hy137]; with_reducible exact H) | (have H2_ := (Option.bind_some _ _).symm.trans H; rw [hy137]; with_reducible exact H2_) | (have H2_ := (Option.bind_some _ _).symm.trans H; with_reducible exact H2_) | with_reducible exact H | (rw [hy137]; exact H) | exact H); have Ny137 := Aside0.mk hy137; clear hy137; have H' := Aside0.mk H; clear H; obtain ⟨Ao22, co22, eo22⟩ := Kd.R_slice HO_3.out; subst eo22; go_wp2_with (first | ((with_reducible refine gate_builtin (b := .append) (xs := #[.tmp 62, .tmp 64]) rfl ?_); at_builtin; refine Kd.R_append (Kd.int .i32) (w0 := w) w.heap.size rfl (.tmp 62) (.tmp 64) 42 21 (.int .i32 0) 4 rfl Tryd.underlying42 info21 rfl (by decide) (by omega) u12 x12_4 x5_2 [.int .i32 x5_2] (fun k_ => some k_ ≠ (.slice Ao22 x3_1.length co22 : Value).ownBlock) (fun _ => False) rfl rfl ?aP (fun _ hk => hk.elim) ?aF ?aO ?aB ?aS ?aL ?_; (case aP => exact rfl); (case aB => exact (by repeat (first | (with_reducible first | exact HB.out | apply below_alloc | apply pw_below_drewN | apply below_drew1) | exact HB.out))); (case aF => exact (fun k_ hk => Kd.fresh' (Kd.R_lt (by (with_reducible repeat (first | apply Kd.R_alloc | apply Kd.R_drewN | apply Kd.R_drew)); exact HO_3.out)) k_ hk)); (case aO => exact (by (with_reducible repeat (first | apply Kd.R_alloc | apply Kd.R_drewN | apply Kd.R_drew)); exact HO_12.out)); (case aS => exact (below_size (by repeat (first | (with_reducible first | exact HB.out | apply below_alloc | apply pw_below_drewN | apply below_drew1) | exact HB.out)))); (case aL => have := LMc21.out; omega); intro v138 w23 ho hb hg hat; rw [← Ny137.out] at ho; have n0_ := Aside0.mk (Kd.R_after (ok := (fun _ => True)) (by (with_reducible repeat (first | apply Kd.R_alloc | apply Kd.R_drewN | apply Kd.R_drew)); exact Kd.R_mono HO_3.out (fun _ hk => ⟨trivial, hk⟩)) hg hat); have n1_ := Aside0.mk (hb); have n2_ := Aside0.mk (ho); clear HO_3; clear HB; clear HO_12; have HO_3 := n0_; have HB := n1_; have HO139 := n2_; clear n0_ n1_ n2_; clear ho hb hg hat)); go_roundg k4
               case measure => have := HK1.out; have := HK2.out; have := HJ3.out; have := HK4.out; omega
               case rel => exact ⟨(y137), (wrap64 (x13_4 + 1)), (by first | rfl | (simp; done) | (simp [*]; done)), H', ⟨by have := HK1.out; have := HK2.out; have := HJ3.out; have := HK4.out; omega⟩, ⟨by (with_reducible repeat (first | apply Kd.R_alloc | apply Kd.R_drewN | apply Kd.R_drew)); exact Kd.R_mono HO_3.out (fun _ hk => hk.2)⟩, ⟨by (with_reducible repeat (first | apply Kd.R_alloc | apply Kd.R_drewN | apply Kd.R_drew)); exact HO139.out⟩, ⟨by repeat (first | (with_reducible first | exact HB.out | apply below_alloc | apply pw_below_drewN | apply below_drew1) | exact HB.out)⟩⟩
              ·rw [if_neg c21] at H; exact absurd H (by simp)
             ·rw [if_neg c20] at H; have c20b0 : (x7_2 == 1) = false := beq_eq_false_iff_ne.mpr c20; have c20b1 : (x7_2 != 1) = true := bne_iff_ne.mpr c20; obtain ⟨y140, hy140⟩ : ∃ y_ : List Int, y_ = (([x5_2, x6_2] : List Int)) := ⟨_, rfl⟩; (replace H : (if x12_4.length + y140.length < 35184372088832 then (tremaref02_Decompose.l2 k4 x3_1 x4_2 x5_2 x6_2 x7_2 (x12_4 ++ y140) (wrap64 (x13_4 + 1))) else (none)) = some r := by first | (rw [hy140]; with_reducible exact H) | (have H2_ := (Option.bind_some _ _).symm.trans H; rw [hy140]; with_reducible exact H2_) | (have H2_ := (Option.bind_some _ _).symm.trans H; with_reducible exact H2_) | with_reducible exact H | (rw [hy140]; exact H) | exact H); have Ny140 := Aside0.mk hy140; clear hy140; by_cases c24 : x12_4.length + y140.length < 35184372088832
              ·rw [if_pos c24] at H; have LMc24 := Aside0.mk c24; clear c24; obtain ⟨y143, hy143⟩ : ∃ y_ : List Int, y_ = (x12_4 ++ y140) := ⟨_, rfl⟩; (replace H : (tremaref02_Decompose.l2 k4 x3_1 x4_2 x5_2 x6_2 x7_2 y143 (wrap64 (x13_4 + 1))) = some r := by first | (rw [hy143]; with_reducible exact H) | (have H2_ := (Option.bind_some _ _).symm.trans H; rw [hy143]; with_reducible exact H2_) | (have H2_ := (Option.bind_some _ _).symm.trans H; with_reducible exact H2_) | with_reducible exact H | (rw [hy143]; exact H) | exact H); have Ny143 := Aside0.mk hy143; clear hy143; have H' := Aside0.mk H; clear H; obtain ⟨Ao25, co25, eo25⟩ := Kd.R_slice HO_3.out; subst eo25; go_wp2_with (first | ((with_reducible refine gate_dst (N := 69) rfl ?_); refine Kd.R_lit (Kd.int .i32) _ 21 ?hg (N := 69) ?hd (xs := ([x5_2, x6_2] : List Int)) (inner := [.int .i32 x5_2, .int .i32 x6_2]) (ok := fun _ => True) (okp := fun _ => True) ?hr ?hp (fun _ hk => hk) trivial (Below.refl _ _) (Nat.le_refl _) (by simp) ?_; (case hd => rfl); (case hg => rfl); (case hr => first | (go_simp; done) | (go_simp; rfl)); (case hp => exact (Reps.one (show Kd.M (Kd.int .i32) _ _ _ x5_2 [.int .i32 x5_2] from rfl) (Reps.one (show Kd.M (Kd.int .i32) _ _ _ x6_2 [.int .i32 x6_2] from rfl) (Reps.none _ _)))); intro v141 w26 ho27 hb hg_ hnew_; clear hg_ hnew_; (first | rw [← Ny140.out] at ho27 | (simp only [Int.reduceToNat] at ho27; rw [← Ny140.out] at ho27)); have n0_ := Aside0.mk (Kd.R_elder' (by (with_reducible repeat (first | apply Kd.R_alloc | apply Kd.R_drewN | apply Kd.R_drew)); exact HO_3.out) (Kd.R_base ho27) hb); have n1_ := Aside0.mk (Kd.R_elder' (by (with_reducible repeat (first | apply Kd.R_alloc | apply Kd.R_drewN | apply Kd.R_drew)); exact HO_12.out) (Kd.R_base ho27) hb); have n2_ := Aside0.mk (Kd.R_lower (Kd.R_new' (Kd.R_new' ho27 (Kd.R_lt (by (with_reducible repeat (first | apply Kd.R_alloc | apply Kd.R_drewN | apply Kd.R_drew)); exact HO_3.out))) (Kd.R_lt (by (with_reducible repeat (first | apply Kd.R_alloc | apply Kd.R_drewN | apply Kd.R_drew)); exact HO_12.out))) (below_size (by repeat (first | (with_reducible first | exact HB.out | apply below_alloc | apply pw_below_drewN | apply below_drew1) | exact HB.out)))); have n3_ := Aside0.mk (below_step (by repeat (first | (with_reducible first | exact HB.out | apply below_alloc | apply pw_below_drewN | apply below_drew1) | exact HB.out)) hb); clear HO_3; clear HO_12; clear HB; have HO_3 := n0_; have HO_12 := n1_; have HO142 := n2_; have HB := n3_; clear n0_ n1_ n2_ n3_; clear hb ho27; obtain ⟨Ao29, co29, eo29⟩ := Kd.R_slice HO142.out; subst eo29) | ((with_reducible refine gate_builtin (b := .append) (xs := #[.tmp 66, .tmp 69]) rfl ?_); at_builtin; refine Kd.R_append_rows (Kd.int .i32) (w0 := w) w.heap.size rfl (.tmp 66) (.tmp 69) 42 21 (.int .i32 0) 4 rfl Tryd.underlying42 info21 rfl (by decide) (by omega) u12 x12_4 y140 _ _ _ (fun k_ => some k_ ≠ (.slice Ao25 x3_1.length co25 : Value).ownBlock ∧ some k_ ≠ (.slice Ao29 y140.length co29 : Value).ownBlock) (fun _ => False) rfl rfl ?aO ?aR (fun _ _ h => h) (fun _ h => h.elim) ?aF ?aB ?aS ?aL ?_; (case aR => repeat (first | exact (Kd.R_reads' HO142.out).2.2 | (with_reducible refine Kd.C_alloc ?_ _) | (with_reducible refine Kd.C_drewN ?_ _) | (with_reducible refine Kd.C_drew ?_))); (case aB => exact (by repeat (first | (with_reducible first | exact HB.out | apply below_alloc | apply pw_below_drewN | apply below_drew1) | exact HB.out))); (case aF => exact (fun k_ hk => ⟨Kd.fresh' (Kd.R_lt (by (with_reducible repeat (first | apply Kd.R_alloc | apply Kd.R_drewN | apply Kd.R_drew)); exact HO_3.out)) k_ hk, Kd.fresh' (Kd.R_lt (by (with_reducible repeat (first | apply Kd.R_alloc | apply Kd.R_drewN | apply Kd.R_drew)); exact HO142.out)) k_ hk⟩)); (case aO => exact (by (with_reducible repeat (first | apply Kd.R_alloc | apply Kd.R_drewN | apply Kd.R_drew)); exact HO_12.out)); (case aS => exact (below_size (by repeat (first | (with_reducible first | exact HB.out | apply below_alloc | apply pw_below_drewN | apply below_drew1) | exact HB.out)))); (case aL => have := LMc24.out; omega); intro v144 w28 ho hb hg hat; rw [← Ny143.out] at ho; have n0_ := Aside0.mk (Kd.R_after (ok := (fun k_ => some k_ ≠ (.slice Ao29 y140.length co29 : Value).ownBlock)) (by (with_reducible repeat (first | apply Kd.R_alloc | apply Kd.R_drewN | apply Kd.R_drew)); exact Kd.R_mono HO_3.out (fun _ hk => ⟨hk.2, hk.1⟩)) hg hat); have n1_ := Aside0.mk (Kd.R_after (ok := (fun k_ => some k_ ≠ (.slice Ao25 x3_1.length co25 : Value).ownBlock)) (by (with_reducible repeat (first | apply Kd.R_alloc | apply Kd.R_drewN | apply Kd.R_drew)); exact Kd.R_mono HO142.out (fun _ hk => ⟨hk.1.2, hk.2⟩)) hg hat); have n2_ := Aside0.mk (hb); have n3_ := Aside0.mk (ho); clear HO_3; clear HO142; clear HB; clear HO_12; have HO_3 := n0_; have HO142 := n1_; have HB := n2_; have HO145 := n3_; clear n0_ n1_ n2_ n3_; clear ho hb hg hat)); go_roundg k4
               case measure => have := HK1.out; have := HK2.out; have := HJ3.out; have := HK4.out; omega
               case rel => exact ⟨(y143), (wrap64 (x13_4 + 1)), (by first | rfl | (simp; done) | (simp [*]; done)), H', ⟨by have := HK1.out; have := HK2.out; have := HJ3.out; have := HK4.out; omega⟩, ⟨by (with_reducible repeat (first | apply Kd.R_alloc | apply Kd.R_drewN | apply Kd.R_drew)); exact Kd.R_mono HO_3.out (fun _ hk => hk.2)⟩, ⟨by (with_reducible repeat (first | apply Kd.R_alloc | apply Kd.R_drewN | apply Kd.R_drew)); exact Kd.R_mono HO145.out (fun _ hk => hk.1)⟩, ⟨by repeat (first | (with_reducible first | exact HB.out | apply below_alloc | apply pw_below_drewN | apply below_drew1) | exact HB.out)⟩⟩
              ·rw [if_neg c24] at H; exact absurd H (by simp)
            ·rw [if_neg c19] at H; have c19b0 : (x13_4 == x4_2) = false := beq_eq_false_iff_ne.mpr c19; have c19b1 : (x13_4 != x4_2) = true := bne_iff_ne.mpr c19; by_cases c30 : 0 ≤ x13_4
             ·rw [if_pos c30] at H; have c30b0 : decide (0 ≤ x13_4) = true := decide_eq_true c30; clear c30; by_cases c31 : x12_4.length < 35184372088832
              ·rw [if_pos c31] at H; have LMc31 := Aside0.mk c31; clear c31; obtain ⟨y147, hy147⟩ : ∃ y_ : List Int, y_ = (x12_4 ++ [rd x3_1 x13_4]) := ⟨_, rfl⟩; (replace H : (tremaref02_Decompose.l2 k4 x3_1 x4_2 x5_2 x6_2 x7_2 y147 (wrap64 (x13_4 + 1))) = some r := by first | (rw [hy147]; with_reducible exact H) | (have H2_ := (Option.bind_some _ _).symm.trans H; rw [hy147]; with_reducible exact H2_) | (have H2_ := (Option.bind_some _ _).symm.trans H; with_reducible exact H2_) | with_reducible exact H | (rw [hy147]; exact H) | exact H); have Ny147 := Aside0.mk hy147; clear hy147; have H' := Aside0.mk H; clear H; obtain ⟨Ao32, co32, eo32⟩ := Kd.R_slice HO_3.out; subst eo32; have p146 : 0 ≤ (x13_4 : Int) := of_decide_eq_true (by first | (with_reducible assumption) | assumption); have q146 : x13_4 < (x3_1.length : Int) := of_decide_eq_true (by first | (with_reducible assumption) | assumption); obtain ⟨ad146, e146, hx146_0⟩ := Kd.at_int (Kd.R_reads' HO_3.out).2.2 x13_4 p146 q146; cases e146; replace p146 := eq_true p146; replace q146 := eq_true q146; go_wp2_with (first | ((with_reducible refine gate_builtin (b := .append) (xs := #[.tmp 53, .tmp 58]) rfl ?_); at_builtin; refine Kd.R_append (Kd.int .i32) (w0 := w) w.heap.size rfl (.tmp 53) (.tmp 58) 42 21 (.int .i32 0) 4 rfl Tryd.underlying42 info21 rfl (by decide) (by omega) u12 x12_4 (rd x3_1 x13_4) [.int .i32 (rd x3_1 x13_4)] (fun k_ => some k_ ≠ (.slice (some ad146) x3_1.length co32 : Value).ownBlock) (fun _ => False) rfl rfl ?aP (fun _ hk => hk.elim) ?aF ?aO ?aB ?aS ?aL ?_; (case aP => exact rfl); (case aB => exact (by repeat (first | (with_reducible first | exact HB.out | apply below_alloc | apply pw_below_drewN | apply below_drew1) | exact HB.out))); (case aF => exact (fun k_ hk => Kd.fresh' (Kd.R_lt (by (with_reducible repeat (first | apply Kd.R_alloc | apply Kd.R_drewN | apply Kd.R_drew)); exact HO_3.out)) k_ hk)); (case aO => exact (by (with_reducible repeat (first | apply Kd.R_alloc | apply Kd.R_drewN | apply Kd.R_drew)); exact HO_12.out)); (case aS => exact (below_size (by repeat (first | (with_reducible first | exact HB.out | apply below_alloc | apply pw_below_drewN | apply below_drew1) | exact HB.out)))); (case aL => have := LMc31.out; omega); intro v148 w33 ho hb hg hat; rw [← Ny147.out] at ho; have n0_ := Aside0.mk (Kd.R_after (ok := (fun _ => True)) (by (with_reducible repeat (first | apply Kd.R_alloc | apply Kd.R_drewN | apply Kd.R_drew)); exact Kd.R_mono HO_3.out (fun _ hk => ⟨trivial, hk⟩)) hg hat); have n1_ := Aside0.mk (hb); have n2_ := Aside0.mk (ho); clear HO_3; clear HB; clear HO_12; have HO_3 := n0_; have HB := n1_; have HO149 := n2_; clear n0_ n1_ n2_; clear ho hb hg hat)); go_roundg k4
               case measure => have := HK1.out; have := HK2.out; have := HJ3.out; have := HK4.out; omega
               case rel => exact ⟨(y147), (wrap64 (x13_4 + 1)), (by first | rfl | (simp; done) | (simp [*]; done)), H', ⟨by have := HK1.out; have := HK2.out; have := HJ3.out; have := HK4.out; omega⟩, ⟨by (with_reducible repeat (first | apply Kd.R_alloc | apply Kd.R_drewN | apply Kd.R_drew)); exact Kd.R_mono HO_3.out (fun _ hk => hk.2)⟩, ⟨by (with_reducible repeat (first | apply Kd.R_alloc | apply Kd.R_drewN | apply Kd.R_drew)); exact HO149.out⟩, ⟨by repeat (first | (with_reducible first | exact HB.out | apply below_alloc | apply pw_below_drewN | apply below_drew1) | exact HB.out)⟩⟩
              ·rw [if_neg c31] at H; exact absurd H (by simp)
             ·rw [if_neg c30] at H; exact absurd H (by simp)
           ·rw [if_neg c18] at H; have c18b0 : decide (x13_4 < (x3_1.length : Int)) = false := decide_eq_false c18; clear c18; have H' := Aside0.mk H; clear H; obtain ⟨Ao34, co34, eo34⟩ := Kd.R_slice HO_3.out; subst eo34; go_wp2; go_roundg k4
            case measure => have := HK1.out; have := HK2.out; have := HJ3.out; have := HK4.out; omega
            case rel => exact ⟨(x12_4), H', ⟨by have := HK1.out; have := HK2.out; have := HJ3.out; have := HK4.out; omega⟩, ⟨by (with_reducible repeat (first | apply Kd.R_alloc | apply Kd.R_drewN | apply Kd.R_drew)); exact Kd.R_mono HO_12.out (fun _ hk => trivial)⟩, ⟨by repeat (first | (with_reducible first | exact HB.out | apply below_alloc | apply pw_below_drewN | apply below_drew1) | exact HB.out)⟩⟩
end Go.Proofs.YthffpkdadffinaaDoor.X
namespace Go.Proofs.YthffpkdadffinaaDoor.Vu
set_option linter.unusedVariables false
set_option linter.unusedSimpArgs false
open Go.RowKit YthffpkdadffinaaDoorW.PrintWords Ev0 X Va Vc Vd Ve Vp0 Vr
def parts (x : Int) : List Int := if (pairU x).2.2 = 1 then [(pairU x).1] else [(pairU x).1, (pairU x).2.1]
theorem getLt {l : List Int} {i : Nat} (h : i < l.length) : (i : Int) < (l.length : Int) := by omega
theorem scan {l : List Int} {R : List Int} (hr : ∀ y ∈ l, I32 y) (hl : l.length ≤ 1000) (m : Nat) (hm : m ≤ l.length) (hz : ∀ i (h : i < m), (pairU (l[i]'(by omega))).2.2 = 0)
    (h : Ev (fun k => tremaref02_Decompose.l1 k l (-1) 0 0 0 (m : Int)) R) : Ev (fun k => tremaref02_Decompose.l0 k l) R := by
  refine Ev.step (fun k => tremaref02_Decompose.l0.eq_2 ..) ?_; refine ev_range (n := m) (F := fun k i => tremaref02_Decompose.l1 k l (-1) 0 0 0 i) h (fun i hi ih => ?_) 0 (Nat.zero_le _); (have hil : i < l.length := by omega); have hy := hr _ (List.getElem_mem hil); unfold I32 at hy; have hw := w64 (i := i) (by omega); have hzi := hz i hi; refine Ev.step (fun k => tremaref02_Decompose.l1.eq_2 ..) ?_; simp only [if_pos (getLt hil), show decide ((-1 : Int) < 0) = true from rfl]; refine Ev.step (fun k => tremaref02_Decompose.j2.eq_2 ..) ?_; simp only [if_true, if_pos (show (0 : Int) ≤ (i : Int) by omega), if_pos (getLt hil), rd_nat hil, tremaref02_Pair.f, if_pos hy, Option.bind_some, hzi, if_neg (show ¬ (0 : Int) > 0 by decide), hw]; exact ih
theorem done {l : List Int} (hr : ∀ y ∈ l, I32 y) (hl : l.length ≤ 1000) (hz : ∀ y ∈ l, (pairU y).2.2 = 0) : Ev (fun k => tremaref02_Decompose.l0 k l) l := by
  refine scan hr hl l.length (Nat.le_refl _) (fun i h => hz _ (List.getElem_mem h)) ?_; refine Ev.step (fun k => tremaref02_Decompose.l1.eq_2 ..) ?_; simp only [if_neg (Int.lt_irrefl _)]; refine Ev.step (fun k => tremaref02_Decompose.j2.eq_2 ..) ?_; simp only [if_neg Bool.false_ne_true, if_pos (show (-1 : Int) < 0 by decide)]; exact Ev.now _
def accU (p q : List Int) (x : Int) (i : Nat) : List Int := if i ≤ p.length then p.take i else p ++ parts x ++ q.take (i - p.length - 1)
theorem one {p q : List Int} {x : Int} {R : List Int} (hr : ∀ y ∈ p ++ [x] ++ q, I32 y) (hl : p.length + q.length ≤ 900) (hz : ∀ y ∈ p, (pairU y).2.2 = 0) (hx : (pairU x).2.2 = 1 ∨ (pairU x).2.2 = 2)
    (h : Ev (fun k => tremaref02_Decompose.l0 k (p ++ parts x ++ q)) R) : Ev (fun k => tremaref02_Decompose.l0 k (p ++ [x] ++ q)) R := by
  obtain ⟨l, hll⟩ : ∃ l, l = p ++ [x] ++ q := ⟨_, rfl⟩; (have hlen : l.length = p.length + 1 + q.length := by rw [hll]; simp; omega); have hxx := hr x (by simp); unfold I32 at hxx; (have hpl : p.length < l.length := by omega); (have hpx : l[p.length]'hpl = x := by subst hll; simp); have hpi : ∀ i (h : i < p.length), l[i]'(by omega) = p[i] := fun i h => by subst hll; simp [List.getElem_append, h]
  have hqi : ∀ i (h : i < q.length), l[p.length + 1 + i]'(by omega) = q[i] := fun i h => by
    subst hll; rw [List.getElem_append_right (by simp)]; congr 1; simp
  rw [← hll] at hr ⊢; clear hll; refine scan hr (by omega) p.length (by omega) (fun i h => by rw [hpi i h]; exact hz _ (List.getElem_mem h)) ?_; have hw := w64 (i := p.length) (by omega); refine Ev.step (fun k => tremaref02_Decompose.l1.eq_2 ..) ?_; simp only [if_pos (getLt hpl), show decide ((-1 : Int) < 0) = true from rfl]; refine Ev.step (fun k => tremaref02_Decompose.j2.eq_2 ..) ?_; simp only [if_true, if_pos (show (0 : Int) ≤ (p.length : Int) by omega), if_pos (getLt hpl), rd_nat hpl, hpx, tremaref02_Pair.f, if_pos hxx, Option.bind_some, if_pos (show (pairU x).2.2 > 0 by omega), hw]
  have key : Ev (fun k => tremaref02_Decompose.j2 k l (p.length : Int) (pairU x).1 (pairU x).2.1 (pairU x).2.2 ((p.length + 1 : Nat) : Int) false) R := by
    refine Ev.step (fun k => tremaref02_Decompose.j2.eq_2 ..) ?_; simp only [if_neg Bool.false_ne_true, if_neg (show ¬ (p.length : Int) < 0 by omega)]; have start : accU p q x (0 : Int).toNat = [] := by simp [accU]
    have hacc : ∀ i, (accU p q x i).length ≤ 1000 := fun i => by
      unfold accU parts; split
      · rw [List.length_take]; omega
      · split <;> simp <;> omega
    have loop := ev_range (n := l.length) (r := R) (F := fun k i => tremaref02_Decompose.l2 k l (p.length : Int) (pairU x).1 (pairU x).2.1 (pairU x).2.2 (accU p q x i.toNat) i) ?_ ?_ 0 (Nat.zero_le _)
    · have := loop; simp only [Int.natCast_zero, start] at this; exact this
    · refine Ev.step (fun k => tremaref02_Decompose.l2.eq_2 ..) ?_; simp only [if_neg (Int.lt_irrefl _), Int.toNat_natCast]
      have he : accU p q x l.length = p ++ parts x ++ q := by
        unfold accU; rw [if_neg (by omega), hlen, show p.length + 1 + q.length - p.length - 1 = q.length by omega, List.take_length]
      rw [he]; exact h
    · intro i hi ih; have hwi := w64 (i := i) (by omega); simp only [Int.toNat_natCast] at ih ⊢; have ha := hacc i; refine Ev.step (fun k => tremaref02_Decompose.l2.eq_2 ..) ?_; simp only [if_pos (getLt hi), hwi]; by_cases e : i = p.length
      · have ea : accU p q x (i + 1) = accU p q x i ++ parts x := by
          subst e; unfold accU; rw [if_neg (by omega), if_pos (Nat.le_refl _)]; simp
        rw [ea] at ih; simp only [if_pos (show (i : Int) = (p.length : Int) by omega)]; rcases hx with h1 | h2
        · (have hp : parts x = [(pairU x).1] := by unfold parts; rw [if_pos h1]); rw [hp] at ih; simp only [if_pos h1, if_pos (show (accU p q x i).length < 35184372088832 by omega)]; exact ih
        · (have hp : parts x = [(pairU x).1, (pairU x).2.1] := by unfold parts; rw [if_neg (by omega)]); rw [hp] at ih; simp only [if_neg (show ¬ (pairU x).2.2 = 1 by omega), Option.bind_some, if_pos (show (accU p q x i).length + ([(pairU x).1, (pairU x).2.1] : List Int).length < 35184372088832 by simp; omega)]; exact ih
      · have ea : accU p q x (i + 1) = accU p q x i ++ [l[i]] := by
          unfold accU; by_cases e2 : i < p.length
          · rw [if_pos (by omega), if_pos (by omega), hpi i e2, List.take_succ_eq_append_getElem e2]
          · obtain ⟨j, rfl⟩ : ∃ j, i = p.length + 1 + j := ⟨i - p.length - 1, by omega⟩; (have hj : j < q.length := by omega); rw [if_neg (by omega), if_neg (by omega), hqi j hj, show p.length + 1 + j + 1 - p.length - 1 = j + 1 by omega, show p.length + 1 + j - p.length - 1 = j by omega, List.take_succ_eq_append_getElem hj]; simp
        rw [ea] at ih; simp only [if_neg (show ¬ (i : Int) = (p.length : Int) by omega), if_pos (show (0 : Int) ≤ (i : Int) by omega), if_pos (show (accU p q x i).length < 35184372088832 by omega), rd_nat hi]; exact ih
  refine Ev.step (fun k => tremaref02_Decompose.l1.eq_2 ..) ?_; by_cases hc : ((p.length + 1 : Nat) : Int) < (l.length : Int)
  · simp only [if_pos hc, decide_eq_false (show ¬ (p.length : Int) < 0 by omega)]; exact key
  · simp only [if_neg hc]; exact key
theorem decF_zeroes : ∀ (k : Nat) (x : Int), okF k x = true → (∀ y ∈ decF k x, (pairU y).2.2 = 0) ∧ (I32 x → ∀ y ∈ decF k x, I32 y)
  | 0, x, h => absurd h (by simp [okF])
  | k + 1, x, h => by
    have hp := pair_range x; (have ia : I32 (pairU x).1 := by unfold I32; omega); (have ib : I32 (pairU x).2.1 := by unfold I32; omega); rw [okF] at h; rw [decF]; by_cases h0 : (pairU x).2.2 = 0
    · rw [if_pos h0]; exact ⟨fun y hy => by simp at hy; subst hy; exact h0, fun hx y hy => by simp at hy; subst hy; exact hx⟩
    · rw [if_neg h0] at h ⊢; by_cases h1 : (pairU x).2.2 = 1
      · rw [if_pos h1] at h ⊢; have i1 := decF_zeroes k _ h; exact ⟨i1.1, fun _ => i1.2 ia⟩
      · rw [if_neg h1, Bool.and_eq_true] at h; rw [if_neg h1]; have i1 := decF_zeroes k _ h.1; have i2 := decF_zeroes k _ h.2; refine ⟨fun y hy => ?_, fun _ y hy => ?_⟩
        · rcases List.mem_append.1 hy with hy | hy
          · exact i1.1 y hy
          · exact i2.1 y hy
        · rcases List.mem_append.1 hy with hy | hy
          · exact i1.2 ia y hy
          · exact i2.2 ib y hy
theorem expand : ∀ (k : Nat) (x : Int) (p q R : List Int), okF k x = true → (∀ y ∈ p ++ [x] ++ q, I32 y) → p.length + 2 ^ k + q.length ≤ 900 → (∀ y ∈ p, (pairU y).2.2 = 0) →
    Ev (fun n => tremaref02_Decompose.l0 n (p ++ decF k x ++ q)) R → Ev (fun n => tremaref02_Decompose.l0 n (p ++ [x] ++ q)) R
  | 0, x, p, q, R, h, _, _, _, _ => absurd h (by simp [okF])
  | k + 1, x, p, q, R, h, hr, hl, hz, hE => by
    have hp := pair_range x; (have ia : I32 (pairU x).1 := by unfold I32; omega); (have ib : I32 (pairU x).2.1 := by unfold I32; omega); have hpow : 0 < 2 ^ k := Nat.two_pow_pos k; rw [Nat.pow_succ] at hl; (have hrp : ∀ y ∈ p, I32 y := fun y hy => hr y (by simp [hy])); (have hrq : ∀ y ∈ q, I32 y := fun y hy => hr y (by simp [hy])); rw [okF] at h; rw [decF] at hE; by_cases h0 : (pairU x).2.2 = 0
    · rw [if_pos h0] at hE; exact hE
    · rw [if_neg h0] at h hE; by_cases h1 : (pairU x).2.2 = 1
      · rw [if_pos h1] at h hE; refine one hr (by omega) hz (.inl h1) ?_; (have hpa : parts x = [(pairU x).1] := by unfold parts; rw [if_pos h1]); rw [hpa]; exact expand k _ p q R h (fun y hy => by simp at hy; rcases hy with hy | rfl | hy; exact hrp y hy; exact ia; exact hrq y hy) (by omega) hz hE
      · rw [if_neg h1] at h hE; rw [Bool.and_eq_true] at h; refine one hr (by omega) hz (.inr (by omega)) ?_; (have hpa : parts x = [(pairU x).1, (pairU x).2.1] := by unfold parts; rw [if_neg h1]); rw [hpa, show p ++ [(pairU x).1, (pairU x).2.1] ++ q = p ++ [(pairU x).1] ++ ((pairU x).2.1 :: q) by simp]; refine expand k _ p _ R h.1 (fun y hy => by simp at hy; rcases hy with hy | rfl | rfl | hy; exact hrp y hy; exact ia; exact ib; exact hrq y hy) (by simp; omega) hz ?_; rw [show p ++ decF k (pairU x).1 ++ ((pairU x).2.1 :: q) = (p ++ decF k (pairU x).1) ++ [(pairU x).2.1] ++ q by simp]; have i1 := decF_zeroes k _ h.1; have hlen := decF_len k (pairU x).1; refine expand k _ _ q R h.2 (fun y hy => ?_) (by rw [List.length_append]; omega) (fun y hy => ?_) (by simpa using hE)
        · simp at hy; rcases hy with hy | hy | rfl | hy
          · exact hrp y hy
          · exact i1.2 ia y hy
          · exact ib
          · exact hrq y hy
        · rcases List.mem_append.1 hy with hy | hy
          · exact hz y hy
          · exact i1.1 y hy
theorem refdec (r : Int) (hr : I32 r) : Ev (fun k => tremaref02_Decompose.f k r) (decU r) := by
  unfold tremaref02_Decompose.f; have hz := decF_zeroes 4 r (okAll r); have hlen : (decU r).length ≤ 2 ^ 4 := decF_len 4 r; refine expand 4 r [] [] _ (okAll r) (fun y hy => by simp at hy; subst hy; exact hr) (by decide) (by simp) ?_; rw [List.nil_append, List.append_nil]; exact done (hz.2 hr) (by have h2 : (decF 4 r).length ≤ 2 ^ 4 := decF_len 4 r; omega) hz.1
end Go.Proofs.YthffpkdadffinaaDoor.Vu
namespace Go.Proofs.YthffpkdadffinaaDoor.X
open Go.RowKit YthffpkdadffinaaDoorW.PrintWords YthffpkdadffinaaDoorW.PrintLast YthffpkdadffinaaDoorW.PrintMore
attribute [local go_sem] max2_int min2_int max_two min_two max_three min_three max_four min_four   
set_option linter.unusedVariables false
set_option linter.unusedSimpArgs false
def norm_Normal.l0 : Nat → List Int → List Int → Int → Int → Option (List Int)
 | 0, _, _, _, _ => none
 | k + 1, x3, x6, x7, x8 => if x8 < x7 then (if 0 ≤ x8 then (if x8 < (x6.length : Int) then ((ucd_Decompose.f (rd x6 x8)).bind fun t319 => (if x3.length + t319.length < 35184372088832 then (norm_Normal.l0 k (x3 ++ t319) x6 x7 (wrap64 (x8 + 1))) else (none))) else (none)) else (none)) else ((norm_ordered.f x3).bind fun t325 => (some t325))
def norm_Normal.f (k : Nat) (l0 : List Int) : Option (List Int) := norm_Normal.l0 k ([] : List Int) l0 (l0.length : Int) 0
theorem norm_Normal.mono_l : ∀ k, (∀ y0 y1 y2 y3, LeO (norm_Normal.l0 k y0 y1 y2 y3) (norm_Normal.l0 (k + 1) y0 y1 y2 y3))
 | 0 => fun _ _ _ _ r h => by simp [norm_Normal.l0] at h
 | k + 1 => by
  have ih0 := norm_Normal.mono_l k
  ·intro y0 y1 y2 y3; unfold norm_Normal.l0; repeat' first | (with_reducible exact ih0 _ _ _ _) | (with_reducible exact LeO.refl _) | (with_reducible exact LeO.none _) | (with_reducible refine LeO.ite ?_ ?_) | (with_reducible refine LeO.bind ?_ (fun _ => ?_)) | exact ih0 _ _ _ _ | exact LeO.none _ | refine LeO.ite ?_ ?_ | refine LeO.bind ?_ (fun _ => ?_)
theorem norm_Normal.mono : ∀ a0 k, LeO (norm_Normal.f k a0) (norm_Normal.f (k + 1) a0) := by
 intro a0 k; have ih0 := norm_Normal.mono_l k; unfold norm_Normal.f; repeat' first | (with_reducible exact ih0 _ _ _ _) | (with_reducible exact LeO.refl _) | (with_reducible exact LeO.none _) | (with_reducible refine LeO.ite ?_ ?_) | (with_reducible refine LeO.bind ?_ (fun _ => ?_)) | exact ih0 _ _ _ _ | exact LeO.none _ | refine LeO.ite ?_ ?_ | refine LeO.bind ?_ (fun _ => ?_)
set_option maxHeartbeats 8000000 in
set_option maxRecDepth 100000 in
theorem norm_Normal.calls (k : Nat) (A0 : Option Addr) (c0 : Nat) (l0 : List Int) (r : List Int) (w : World) (hr0 : Kd.C (Kd.int .i32) w A0 l0.length l0) (hc0 : l0.length ≤ c0) (h : norm_Normal.f k l0 = some r) (hG0 : Va.G w) :
  Calls Tryd.prog 71 #[.slice A0 l0.length c0] w fun e w' => ∃ v0_ : Value, e = .returned (v0_) ∧ Kd.R (Kd.int .i32) 21 w' w.heap.size (fun _ => True) v0_ r ∧ Below w.heap.size w w' := by
 have HG := Aside0.mk hG0; clear hG0; have HR0 := Aside0.mk hr0; have HC0 := Aside0.mk hc0; clear hr0 hc0; have HB := Aside0.mk (Below.refl w.heap.size w); have H : (norm_Normal.l0 k ([] : List Int) l0 (l0.length : Int) 0) = some r := h; clear h; have H' := Aside0.mk H; clear H; go_enter Tryd.func71, Tryd.ntmps71; go_wp2; go_loopg [3, 8] k (fun kq v3 v8 w' => ∃ (x3_1 : List Int) (x8_1 : Int), v8 = .int .i64 x8_1 ∧ Aside0 (norm_Normal.l0 kq x3_1 l0 (l0.length : Int) x8_1 = some r) ∧ Aside0 (kq ≤ k) ∧ Aside0 (Kd.R (Kd.int .i32) 21 w' w.heap.size (fun _ => True) v3 x3_1) ∧ Aside0 (Below w.heap.size w w'))
 case atStart => exact ⟨(([] : List Int)), (0), (by first | rfl | (simp; done) | (simp [*]; done)), H', ⟨Nat.le_refl _⟩, ⟨by first | exact Kd.R_nil _ _ _ _ _ | exact Kd.N_nil _ _ _ _ _ | exact Kd.V_nil _ _ _ _ _ | exact Kd.Q_nil _ _ _ _ _ | exact Kd.S_nil _ _ _ _ _⟩, ⟨by repeat (first | (with_reducible first | exact HB.out | apply below_alloc | apply pw_below_drewN | apply below_drew1) | exact HB.out)⟩⟩
 case round =>
  clear H'; obtain ⟨x3_1, x8_1, rfl, HA, HK1, HO_3, HB⟩ := hrel
  cases gk with
  | zero => exact absurd HA.out (by simp [norm_Normal.l0])
  | succ k1 =>
   have H := HA.out; clear HA; simp only [norm_Normal.l0] at H; by_cases c2 : x8_1 < (l0.length : Int)
   ·rw [if_pos c2] at H; have c2b0 : decide (x8_1 < (l0.length : Int)) = true := decide_eq_true c2; clear c2; by_cases c3 : 0 ≤ x8_1
    ·rw [if_pos c3] at H; have c3b0 : decide (0 ≤ x8_1) = true := decide_eq_true c3; clear c3; by_cases c4 : x8_1 < (l0.length : Int)
     ·rw [if_pos c4] at H; have c4b0 : decide (x8_1 < (l0.length : Int)) = true := decide_eq_true c4; clear c4; replace H := Option.bind_eq_some_iff.mp H; obtain ⟨t319, A50, H⟩ := H; (try dsimp only at H); have A5 := Aside0.mk A50; clear A50; by_cases c6 : x3_1.length + t319.length < 35184372088832
      ·rw [if_pos c6] at H; have LMc6 := Aside0.mk c6; clear c6; obtain ⟨y322, hy322⟩ : ∃ y_ : List Int, y_ = (x3_1 ++ t319) := ⟨_, rfl⟩; (replace H : (norm_Normal.l0 k1 y322 l0 (l0.length : Int) (wrap64 (x8_1 + 1))) = some r := by first | (rw [hy322]; with_reducible exact H) | (have H2_ := (Option.bind_some _ _).symm.trans H; rw [hy322]; with_reducible exact H2_) | (have H2_ := (Option.bind_some _ _).symm.trans H; with_reducible exact H2_) | with_reducible exact H | (rw [hy322]; exact H) | exact H); have Ny322 := Aside0.mk hy322; clear hy322; have H' := Aside0.mk H; clear H; have p318 : 0 ≤ (x8_1 : Int) := of_decide_eq_true (by first | (with_reducible assumption) | assumption); have q318 : x8_1 < (l0.length : Int) := of_decide_eq_true (by first | (with_reducible assumption) | assumption); obtain ⟨ad318, e318, hx318_0⟩ := Kd.at_int HR0.out x8_1 p318 q318; cases e318; replace hx318_0 := (HB.out.cell (World.block_lt_of_cell? w _ hx318_0)).trans hx318_0; replace p318 := eq_true p318; replace q318 := eq_true q318; go_wp2_with (first | ((with_reducible refine gate_callee (f := 57) rfl ?_); refine goesL_ (some 14) rfl rfl Tryd.func57 (by kernel_rfl) rfl #[.int .i32 (rd l0 x8_1)] rfl (by (try simp only [List.map_toArray, List.map_cons, List.map_nil]); first | done | rfl | (simp only [List.length_drop, List.length_take]; rfl)) ?_; (with_reducible refine (ucd_Decompose.calls (rd l0 x8_1) t319 _ A5.out (by first | exact HG.out | exact Va.G.below HG.out (by repeat (first | (with_reducible first | exact HB.out | apply below_alloc | apply pw_below_drewN | apply below_drew1) | exact HB.out)))).mono ?_); rintro e w7 ⟨v320, rfl, ho0, hb⟩; refine ⟨_, rfl, ?_⟩; have n0_ := Aside0.mk (Kd.R_elder' (by (with_reducible repeat (first | apply Kd.R_alloc | apply Kd.R_drewN | apply Kd.R_drew)); exact HO_3.out) (Kd.R_base ho0) hb); have n1_ := Aside0.mk (Kd.R_lower (Kd.R_new' ho0 (Kd.R_lt (by (with_reducible repeat (first | apply Kd.R_alloc | apply Kd.R_drewN | apply Kd.R_drew)); exact HO_3.out))) (below_size (by repeat (first | (with_reducible first | exact HB.out | apply below_alloc | apply pw_below_drewN | apply below_drew1) | exact HB.out)))); have n2_ := Aside0.mk (below_step (by repeat (first | (with_reducible first | exact HB.out | apply below_alloc | apply pw_below_drewN | apply below_drew1) | exact HB.out)) hb); clear HO_3; clear HB; have HO_3 := n0_; have HO321 := n1_; have HB := n2_; clear n0_ n1_ n2_; (try clear hb); (try clear hb2); (try clear hk); (try clear hi); (try clear ho0); obtain ⟨Ao9, co9, eo9⟩ := Kd.R_slice HO321.out; subst eo9) | ((with_reducible refine gate_builtin (b := .append) (xs := #[.tmp 12, .tmp 14]) rfl ?_); at_builtin; refine Kd.R_append_rows (Kd.int .i32) (w0 := w) w.heap.size rfl (.tmp 12) (.tmp 14) 42 21 (.int .i32 0) 4 rfl Tryd.underlying42 info21 rfl (by decide) (by omega) u3 x3_1 t319 _ _ _ (fun k_ => some k_ ≠ (.slice Ao9 t319.length co9 : Value).ownBlock) (fun _ => False) rfl rfl ?aO ?aR (fun _ _ h => h) (fun _ h => h.elim) ?aF ?aB ?aS ?aL ?_; (case aR => repeat (first | exact (Kd.R_reads' HO321.out).2.2 | (with_reducible refine Kd.C_alloc ?_ _) | (with_reducible refine Kd.C_drewN ?_ _) | (with_reducible refine Kd.C_drew ?_))); (case aB => exact (by repeat (first | (with_reducible first | exact HB.out | apply below_alloc | apply pw_below_drewN | apply below_drew1) | exact HB.out))); (case aF => exact (fun k_ hk => Kd.fresh' (Kd.R_lt (by (with_reducible repeat (first | apply Kd.R_alloc | apply Kd.R_drewN | apply Kd.R_drew)); exact HO321.out)) k_ hk)); (case aO => exact (by (with_reducible repeat (first | apply Kd.R_alloc | apply Kd.R_drewN | apply Kd.R_drew)); exact Kd.R_mono HO_3.out (fun _ hk => hk.2))); (case aS => exact (below_size (by repeat (first | (with_reducible first | exact HB.out | apply below_alloc | apply pw_below_drewN | apply below_drew1) | exact HB.out)))); (case aL => have := LMc6.out; omega); intro v323 w8 ho hb hg hat; rw [← Ny322.out] at ho; have n0_ := Aside0.mk (Kd.R_after (ok := (fun _ => True)) (by (with_reducible repeat (first | apply Kd.R_alloc | apply Kd.R_drewN | apply Kd.R_drew)); exact HO321.out) hg hat); have n1_ := Aside0.mk (hb); have n2_ := Aside0.mk (ho); clear HO321; clear HB; clear HO_3; have HO321 := n0_; have HB := n1_; have HO324 := n2_; clear n0_ n1_ n2_; clear ho hb hg hat)); go_roundg k1
       case measure => have := HK1.out; omega
       case rel => exact ⟨(y322), (wrap64 (x8_1 + 1)), (by first | rfl | (simp; done) | (simp [*]; done)), H', ⟨by have := HK1.out; omega⟩, ⟨by (with_reducible repeat (first | apply Kd.R_alloc | apply Kd.R_drewN | apply Kd.R_drew)); exact Kd.R_mono HO324.out (fun _ hk => trivial)⟩, ⟨by repeat (first | (with_reducible first | exact HB.out | apply below_alloc | apply pw_below_drewN | apply below_drew1) | exact HB.out)⟩⟩
      ·rw [if_neg c6] at H; exact absurd H (by simp)
     ·rw [if_neg c4] at H; exact absurd H (by simp)
    ·rw [if_neg c3] at H; exact absurd H (by simp)
   ·rw [if_neg c2] at H; have c2b0 : decide (x8_1 < (l0.length : Int)) = false := decide_eq_false c2; clear c2; replace H := Option.bind_eq_some_iff.mp H; obtain ⟨t325, A100, H⟩ := H; replace H : (some t325) = some r := H; have A10 := Aside0.mk A100; clear A100; obtain rfl := Option.some.inj H; obtain ⟨Ao11, co11, eo11⟩ := Kd.R_slice HO_3.out; subst eo11; go_wp2_with (first | ((with_reducible refine gate_callee (f := 92) rfl ?_); refine goesL_ (some 18) rfl rfl Tryd.func92 (by kernel_rfl) rfl #[.slice Ao11 x3_1.length co11] rfl (by (try simp only [List.map_toArray, List.map_cons, List.map_nil]); first | done | rfl | (simp only [List.length_drop, List.length_take]; rfl)) ?_; (with_reducible refine (norm_ordered.calls (fun k_ => some k_ = (.slice Ao11 x3_1.length co11 : Value).ownBlock) (.slice Ao11 x3_1.length co11) x3_1 t325 w _ ?side1 ?side2 A10.out (by first | exact HG.out | exact Va.G.below HG.out (by repeat (first | (with_reducible first | exact HB.out | apply below_alloc | apply pw_below_drewN | apply below_drew1) | exact HB.out)))).mono ?_); (case side1 => repeat (first | (with_reducible first | exact HB.out | apply below_alloc | apply pw_below_drewN | apply below_drew1) | exact HB.out)); (case side2 => exact Kd.R_tight rfl HO_3.out); rintro e w12 ⟨v326, rfl, ho0, hb, hkp⟩; refine ⟨_, rfl, ?_⟩; have n0_ := Aside0.mk (Kd.R_mono (ok' := fun k_ => True) ho0 (fun k_ hk_ => trivial)); have n1_ := Aside0.mk (hb); clear HB; clear HO_3; have HO327 := n0_; have HB := n1_; clear n0_ n1_; (try clear hb); (try clear hkp); (try clear ho0))); go_ret; exact ⟨_, by first | rfl | (simp [errW_none, errW_some] <;> rfl) | (simp [*, errW_none, errW_some] <;> rfl), by (with_reducible repeat (first | apply Kd.R_alloc | apply Kd.R_drewN | apply Kd.R_drew)); exact HO327.out, by repeat (first | (with_reducible first | exact HB.out | apply below_alloc | apply pw_below_drewN | apply below_drew1) | exact HB.out)⟩
end Go.Proofs.YthffpkdadffinaaDoor.X
namespace Go.Proofs.YthffpkdadffinaaDoor.Oa
set_option linter.unusedVariables false
set_option linter.unusedSimpArgs false
open Go.Proofs.YthffpkdadffinaaDoor.Vd (decU)
open Go.RowKit YthffpkdadffinaaDoorW.PrintWords Ev0 X Va Vc Ve Vp0 Vr Vu Na
def flat (l : List Int) : List Int := l.flatMap decU
def nrm (l : List Int) : List Int := ordL (flat l)
theorem flat_cons (x : Int) (l : List Int) : flat (x :: l) = decU x ++ flat l := List.flatMap_cons ..
theorem flat_app (a b : List Int) : flat (a ++ b) = flat a ++ flat b := List.flatMap_append ..
theorem dec_len3 (x : Int) (hx : I32 x) : (decU x).length ≤ 3 := (bottom x hx).hi
theorem flat_len (l : List Int) (hl : ∀ x ∈ l, I32 x) : (flat l).length ≤ 3 * l.length := by
  induction l with
  | nil => simp [flat]
  | cons x t ih =>
    have := ih (fun y hy => hl y (List.mem_cons_of_mem _ hy)); have := dec_len3 x (hl x (List.mem_cons_self ..)); rw [flat_cons, List.length_append, List.length_cons]; omega
def Rd : List Int → Prop
  | [] => True
  | [_] => True
  | y :: x :: t => (cls y = 0 ∨ cls x ≤ cls y) ∧ Rd (x :: t)
theorem Rd.tail {x : Int} {t : List Int} (h : Rd (x :: t)) : Rd t := by
  cases t with
  | nil => trivial
  | cons y t => exact h.2
theorem ins_rd (x : Int) : ∀ r, Rd r → Rd (ins x r)
  | [], _ => trivial
  | [y], _ => by
    rw [ins]; split
    · rename_i h; exact ⟨.inr (Int.le_of_lt h.2), trivial⟩
    · rename_i h; refine ⟨?_, trivial⟩; rcases Classical.em (cls x = 0) with h0 | h0
      · exact .inl h0
      · exact .inr (Int.not_lt.1 fun k => h ⟨h0, k⟩)
  | y :: z :: r, h => by
    rw [ins]; split
    · rename_i h1; have h2 := ins_rd x (z :: r) h.2; rw [ins] at h2 ⊢; split
      · rename_i h3; rw [if_pos h3] at h2; exact ⟨h.1, h2⟩
      · rename_i h3; rw [if_neg h3] at h2; exact ⟨.inr (Int.le_of_lt h1.2), h2⟩
    · rename_i h1; refine ⟨?_, h⟩; rcases Classical.em (cls x = 0) with h0 | h0
      · exact .inl h0
      · exact .inr (Int.not_lt.1 fun k => h1 ⟨h0, k⟩)
theorem ordR_rd (l : List Int) : Rd (ordR l) := by
  have key : ∀ (l r : List Int), Rd r → Rd (l.foldl (fun acc x => ins x acc) r) := by
    intro l
    induction l with
    | nil => exact fun r h => h
    | cons x t ih => exact fun r h => ih _ (ins_rd x r h)
  exact key l [] trivial
theorem ins_id {x : Int} {r : List Int} (h : Rd (x :: r)) : ins x r = x :: r := by
  cases r with
  | nil => rfl
  | cons y r =>
    rw [ins, if_neg]; intro k; rcases h.1 with h0 | h0
    · exact k.1 h0
    · exact absurd k.2 (Int.not_lt.2 h0)
theorem ordR_snoc (l : List Int) (x : Int) : ordR (l ++ [x]) = ins x (ordR l) := by unfold ordR; rw [List.foldl_append]; rfl
theorem ordR_id : ∀ r : List Int, Rd r → ordR r.reverse = r
  | [], _ => rfl
  | x :: r, h => by rw [List.reverse_cons, ordR_snoc, ordR_id r h.tail, ins_id h]
theorem ordL_id (l : List Int) : ordL (ordL l) = ordL l := by
  (show (ordR (ordR l).reverse).reverse = _); rw [ordR_id _ (ordR_rd l)]
  rfl
theorem dec_bot (x : Int) (hx : I32 x) : ∀ y ∈ decU x, decU y = [y] ∧ I32 y := fun y hy =>
  ⟨dec_zero y ((bottom x hx).zero y hy), (bottom x hx).rng y hy⟩
theorem flat_bot (l : List Int) (hl : ∀ x ∈ l, I32 x) : ∀ y ∈ flat l, decU y = [y] ∧ I32 y := fun y hy => by
  obtain ⟨x, hx, hy⟩ := List.mem_flatMap.1 hy; exact dec_bot x (hl x hx) y hy
theorem nrm_bot (l : List Int) (hl : ∀ x ∈ l, I32 x) : ∀ y ∈ nrm l, decU y = [y] ∧ I32 y := fun y hy => flat_bot l hl y ((ordL_mem _ _).1 hy)
theorem flat_id : ∀ l : List Int, (∀ y ∈ l, decU y = [y]) → flat l = l
  | [], _ => rfl
  | x :: t, h => by rw [flat_cons, h x (List.mem_cons_self ..), flat_id t (fun y hy => h y (List.mem_cons_of_mem _ hy))]; rfl
theorem nrm_id (l : List Int) (hl : ∀ x ∈ l, I32 x) : nrm (nrm l) = nrm l := by
  (show ordL (flat (nrm l)) = _); rw [flat_id _ (fun y hy => (nrm_bot l hl y hy).1)]; exact ordL_id _
theorem nrm_len (l : List Int) : (nrm l).length = (flat l).length := ordL_len _
theorem nrm_len3 (l : List Int) (hl : ∀ x ∈ l, I32 x) : (nrm l).length ≤ 3 * l.length := by rw [nrm_len]; exact flat_len l hl
theorem normEv (l : List Int) (hwf : ∀ x ∈ l, I32 x) (hl : l.length ≤ 100000000) : Ev (fun k => norm_Normal.f k l) (nrm l) := by
  unfold norm_Normal.f; have key := ev_range (n := l.length) (F := fun k i => norm_Normal.l0 k (flat (l.take i.toNat)) l (l.length : Int) i) (r := nrm l) ?_ ?_ 0 (Nat.zero_le _)
  · exact key
  · refine Ev.step (fun k => norm_Normal.l0.eq_2 ..) ?_; have := flat_len l hwf; simp only [if_neg (Int.lt_irrefl _), Int.toNat_natCast, List.take_length, norm_ordered.f, if_pos (show (flat l).length ≤ 1000000000000000 by omega), Option.bind_some]; exact Ev.now _
  · intro i hi ih; have hw := w64 (i := i) (by omega); have hx32 := hwf l[i] (List.getElem_mem hi); have hx := hx32; unfold I32 at hx32
    have e : flat (l.take (i + 1)) = flat (l.take i) ++ decU l[i] := by
      rw [List.take_succ_eq_append_getElem hi, flat_app]; simp [flat]
    have h1 := flat_len (l.take i) (fun x hx => hwf x (List.mem_of_mem_take hx)); have h2 := dec_len3 l[i] hx; rw [List.length_take] at h1; refine Ev.step (fun k => norm_Normal.l0.eq_2 ..) ?_; simp only [Int.toNat_natCast] at ih ⊢; simp only [if_pos (getLt hi), if_pos (show (0 : Int) ≤ (i : Int) by omega), rd_nat hi, ucd_Decompose.f, if_pos hx32, Option.bind_some, if_pos (show (flat (l.take i)).length + (decU l[i]).length < 35184372088832 by omega), hw, ← e]; exact ih
end Go.Proofs.YthffpkdadffinaaDoor.Oa
