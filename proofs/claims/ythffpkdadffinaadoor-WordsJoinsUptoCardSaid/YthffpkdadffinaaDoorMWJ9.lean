/-
  Several texts of this claim in one: what its law's proof uses.
-/
import Derived.Test.YthffpkdadffinaaDoorMWJ2
import Derived.Test.YthffpkdadffinaaDoorMWJ8
import Derived.Test.YthffpkdadffinaaDoorMWJ7
namespace Go.Proofs.YthffpkdadffinaaDoor.X
open Go.RowKit YthffpkdadffinaaDoorW.PrintWords YthffpkdadffinaaDoorW.PrintLast YthffpkdadffinaaDoorW.PrintMore
attribute [local go_sem] max2_int min2_int max_two min_two max_three min_three max_four min_four   
set_option linter.unusedVariables false
set_option linter.unusedSimpArgs false
mutual
def tremaref01_At.j1 : Nat → List Int → Int → List Int → Int → Option (Int × Int × Bool)
 | 0, _, _, _, _ => none
 | k + 1, x0, x1, x7, x9 => if x9 ≤ (wrap64 ((x7.length : Int) / 2)) then (some (65533, x9, ((wrap64 (x1 + x9)) == (x0.length : Int)))) else (if x9 = 1 then (if 0 ≤ x1 then (if x1 < (x0.length : Int) then (some (wrap32 (rd x0 x1), 1, false)) else (none)) else (none)) else (if 0 ≤ x1 then (if x1 < (x0.length : Int) then (if 0 ≤ (wrap64 (7 - x9)) then (if (shl .i32 1 (wrap64 (7 - x9))) = 0 then (none) else (tremaref01_At.l1 k x0 x1 x9 (Int.tmod (wrap32 (rd x0 x1)) (shl .i32 1 (wrap64 (7 - x9)))) 1)) else (none)) else (none)) else (none)))
def tremaref01_At.l1 : Nat → List Int → Int → Int → Int → Int → Option (Int × Int × Bool)
 | 0, _, _, _, _, _ => none
 | k + 1, x0, x1, x9, x10, x11 => if x11 < x9 then (if 0 ≤ (wrap64 (x1 + x11)) then (if (wrap64 (x1 + x11)) < (x0.length : Int) then (tremaref01_At.l1 k x0 x1 x9 (wrap32 ((wrap32 (x10 * 64)) + (Int.tmod (wrap32 (rd x0 (wrap64 (x1 + x11)))) 64))) (wrap64 (x11 + 1))) else (none)) else (none)) else (some (x10, x9, false))
def tremaref01_At.l0 : Nat → List Int → Int → List Int → Int → Option (Int × Int × Bool)
 | 0, _, _, _, _ => none
 | k + 1, x0, x1, x7, x9 => if x9 ≤ (wrap64 ((x7.length : Int) / 2)) then (if (wrap64 (x1 + x9)) < (x0.length : Int) then (if 0 ≤ (wrap64 (x1 + x9)) then (if 0 ≤ (wrap64 ((wrap64 (2 * x9)) - 2)) then (if (wrap64 ((wrap64 (2 * x9)) - 2)) < (x7.length : Int) then (if (rd x0 (wrap64 (x1 + x9))) ≥ (rd x7 (wrap64 ((wrap64 (2 * x9)) - 2))) then (if 0 ≤ (wrap64 ((wrap64 (2 * x9)) - 1)) then (if (wrap64 ((wrap64 (2 * x9)) - 1)) < (x7.length : Int) then (if (rd x0 (wrap64 (x1 + x9))) ≤ (rd x7 (wrap64 ((wrap64 (2 * x9)) - 1))) then (tremaref01_At.l0 k x0 x1 x7 (wrap64 (x9 + 1))) else (tremaref01_At.j1 k x0 x1 x7 x9)) else (none)) else (none)) else (tremaref01_At.j1 k x0 x1 x7 x9)) else (none)) else (none)) else (none)) else (tremaref01_At.j1 k x0 x1 x7 x9)) else (tremaref01_At.j1 k x0 x1 x7 x9)
end
def tremaref01_At.f (k : Nat) (l0 : List Int) (a1 : Int) : Option (Int × Int × Bool) := if 0 ≤ a1 then (if a1 < (l0.length : Int) then ((tremaref01_row.f k (rd l0 a1)).bind fun bt183 => (if bt183.2 = true then (tremaref01_At.l0 k l0 a1 bt183.1 1) else (some (65533, 1, false)))) else (none)) else (none)
theorem tremaref01_At.mono_l : ∀ k, (∀ y0 y1 y2 y3, LeO (tremaref01_At.j1 k y0 y1 y2 y3) (tremaref01_At.j1 (k + 1) y0 y1 y2 y3)) ∧ (∀ y0 y1 y2 y3 y4, LeO (tremaref01_At.l1 k y0 y1 y2 y3 y4) (tremaref01_At.l1 (k + 1) y0 y1 y2 y3 y4)) ∧ (∀ y0 y1 y2 y3, LeO (tremaref01_At.l0 k y0 y1 y2 y3) (tremaref01_At.l0 (k + 1) y0 y1 y2 y3))
 | 0 => ⟨fun _ _ _ _ r h => by simp [tremaref01_At.j1] at h, fun _ _ _ _ _ r h => by simp [tremaref01_At.l1] at h, fun _ _ _ _ r h => by simp [tremaref01_At.l0] at h⟩
 | k + 1 => by
  obtain ⟨ih0, ih1, ih2⟩ := tremaref01_At.mono_l k; refine ⟨?_, ?_, ?_⟩
  ·intro y0 y1 y2 y3; unfold tremaref01_At.j1; repeat' first | (with_reducible exact ih0 _ _ _ _) | (with_reducible exact ih1 _ _ _ _ _) | (with_reducible exact ih2 _ _ _ _) | (with_reducible exact tremaref01_row.mono _ _) | (with_reducible exact LeO.refl _) | (with_reducible exact LeO.none _) | (with_reducible refine LeO.ite ?_ ?_) | (with_reducible refine LeO.bind ?_ (fun _ => ?_)) | exact ih0 _ _ _ _ | exact ih1 _ _ _ _ _ | exact ih2 _ _ _ _ | exact tremaref01_row.mono _ _ | exact LeO.none _ | refine LeO.ite ?_ ?_ | refine LeO.bind ?_ (fun _ => ?_)
  ·intro y0 y1 y2 y3 y4; unfold tremaref01_At.l1; repeat' first | (with_reducible exact ih0 _ _ _ _) | (with_reducible exact ih1 _ _ _ _ _) | (with_reducible exact ih2 _ _ _ _) | (with_reducible exact tremaref01_row.mono _ _) | (with_reducible exact LeO.refl _) | (with_reducible exact LeO.none _) | (with_reducible refine LeO.ite ?_ ?_) | (with_reducible refine LeO.bind ?_ (fun _ => ?_)) | exact ih0 _ _ _ _ | exact ih1 _ _ _ _ _ | exact ih2 _ _ _ _ | exact tremaref01_row.mono _ _ | exact LeO.none _ | refine LeO.ite ?_ ?_ | refine LeO.bind ?_ (fun _ => ?_)
  ·intro y0 y1 y2 y3; unfold tremaref01_At.l0; repeat' first | (with_reducible exact ih0 _ _ _ _) | (with_reducible exact ih1 _ _ _ _ _) | (with_reducible exact ih2 _ _ _ _) | (with_reducible exact tremaref01_row.mono _ _) | (with_reducible exact LeO.refl _) | (with_reducible exact LeO.none _) | (with_reducible refine LeO.ite ?_ ?_) | (with_reducible refine LeO.bind ?_ (fun _ => ?_)) | exact ih0 _ _ _ _ | exact ih1 _ _ _ _ _ | exact ih2 _ _ _ _ | exact tremaref01_row.mono _ _ | exact LeO.none _ | refine LeO.ite ?_ ?_ | refine LeO.bind ?_ (fun _ => ?_)
theorem tremaref01_At.mono : ∀ a0 a1 k, LeO (tremaref01_At.f k a0 a1) (tremaref01_At.f (k + 1) a0 a1) := by
 intro a0 a1 k; obtain ⟨ih0, ih1, ih2⟩ := tremaref01_At.mono_l k; unfold tremaref01_At.f; repeat' first | (with_reducible exact ih0 _ _ _ _) | (with_reducible exact ih1 _ _ _ _ _) | (with_reducible exact ih2 _ _ _ _) | (with_reducible exact tremaref01_row.mono _ _) | (with_reducible exact LeO.refl _) | (with_reducible exact LeO.none _) | (with_reducible refine LeO.ite ?_ ?_) | (with_reducible refine LeO.bind ?_ (fun _ => ?_)) | exact ih0 _ _ _ _ | exact ih1 _ _ _ _ _ | exact ih2 _ _ _ _ | exact tremaref01_row.mono _ _ | exact LeO.none _ | refine LeO.ite ?_ ?_ | refine LeO.bind ?_ (fun _ => ?_)
set_option maxHeartbeats 8000000 in
set_option maxRecDepth 100000 in
theorem tremaref01_At.calls (k : Nat) (A0 : Option Addr) (c0 : Nat) (l0 : List Int) (a1 : Int) (r1 : Int) (r2 : Int) (r3 : Bool) (w : World) (hr0 : Kd.C (Kd.int .u8) w A0 l0.length l0) (hc0 : l0.length ≤ c0) (h : tremaref01_At.f k l0 a1 = some (r1, r2, r3)) :
  Calls Tryd.prog 82 #[.slice A0 l0.length c0, .int .i64 a1] w fun e w' => e = .returned (.tuple #[.int .i32 r1, .int .i64 r2, .bool r3]) ∧ Below w.heap.size w w' := by
 have HR0 := Aside0.mk hr0; have HC0 := Aside0.mk hc0; clear hr0 hc0; have HB := Aside0.mk (Below.refl w.heap.size w); have H : (if 0 ≤ a1 then (if a1 < (l0.length : Int) then ((tremaref01_row.f k (rd l0 a1)).bind fun bt183 => (if bt183.2 = true then (tremaref01_At.l0 k l0 a1 bt183.1 1) else (some (65533, 1, false)))) else (none)) else (none)) = some (r1, r2, r3) := h; clear h; by_cases c3 : 0 ≤ a1
 ·rw [if_pos c3] at H; have c3b0 : decide (0 ≤ a1) = true := decide_eq_true c3; clear c3; by_cases c4 : a1 < (l0.length : Int)
  ·rw [if_pos c4] at H; have c4b0 : decide (a1 < (l0.length : Int)) = true := decide_eq_true c4; clear c4; replace H := Option.bind_eq_some_iff.mp H; obtain ⟨⟨t183, t184⟩, A50, H⟩ := H; (try dsimp only at H); have A5 := Aside0.mk A50; clear A50; by_cases c6 : t184 = true
   ·subst c6; rw [if_pos rfl] at H; have HC7 := Aside0.mk H; clear H; have p182 : 0 ≤ (a1 : Int) := of_decide_eq_true (by first | (with_reducible assumption) | assumption); have q182 : a1 < (l0.length : Int) := of_decide_eq_true (by first | (with_reducible assumption) | assumption); obtain ⟨ad182, e182, hx182_0⟩ := Kd.at_int HR0.out a1 p182 q182; cases e182; replace p182 := eq_true p182; replace q182 := eq_true q182; go_enter Tryd.func82, Tryd.ntmps82
    go_upto_block 0 with (first | (go_at_call 98; (with_reducible refine (tremaref01_row.calls k (rd l0 a1) t183 true _ A5.out).mono ?_); rintro e w8 ⟨v185, rfl, ho0, hb⟩; have n0_ := Aside0.mk (Kd.R_lower ho0 (below_size (by repeat (first | (with_reducible first | exact HB.out | apply below_alloc | apply pw_below_drewN | apply below_drew1) | exact HB.out)))); have n1_ := Aside0.mk (below_step (by repeat (first | (with_reducible first | exact HB.out | apply below_alloc | apply pw_below_drewN | apply below_drew1) | exact HB.out)) hb); clear HB; have HO186 := n0_; have HB := n1_; clear n0_ n1_; (try clear hb); (try clear hb2); (try clear hk); (try clear hi); (try clear ho0)))
    repeat (go_quiet (first | (go_at_call 98; (with_reducible refine (tremaref01_row.calls k (rd l0 a1) t183 true _ A5.out).mono ?_); rintro e w8 ⟨v185, rfl, ho0, hb⟩; have n0_ := Aside0.mk (Kd.R_lower ho0 (below_size (by repeat (first | (with_reducible first | exact HB.out | apply below_alloc | apply pw_below_drewN | apply below_drew1) | exact HB.out)))); have n1_ := Aside0.mk (below_step (by repeat (first | (with_reducible first | exact HB.out | apply below_alloc | apply pw_below_drewN | apply below_drew1) | exact HB.out)) hb); clear HB; have HO186 := n0_; have HB := n1_; clear n0_ n1_; (try clear hb); (try clear hb2); (try clear hk); (try clear hi); (try clear ho0))); go_upto_block 0 with (first | (go_at_call 98; (with_reducible refine (tremaref01_row.calls k (rd l0 a1) t183 true _ A5.out).mono ?_); rintro e w8 ⟨v185, rfl, ho0, hb⟩; have n0_ := Aside0.mk (Kd.R_lower ho0 (below_size (by repeat (first | (with_reducible first | exact HB.out | apply below_alloc | apply pw_below_drewN | apply below_drew1) | exact HB.out)))); have n1_ := Aside0.mk (below_step (by repeat (first | (with_reducible first | exact HB.out | apply below_alloc | apply pw_below_drewN | apply below_drew1) | exact HB.out)) hb); clear HB; have HO186 := n0_; have HB := n1_; clear n0_ n1_; (try clear hb); (try clear hb2); (try clear hk); (try clear hi); (try clear ho0))))
    (try simp only [Act.put, List.setIfInBounds_toArray, List.set_cons_zero, List.set_cons_succ])
    go_cut [9] (fun v9 wc => ∃ (kq : Nat) (x9_6 : Int), v9 = .int .i64 x9_6 ∧ Aside0 (tremaref01_At.j1 kq l0 a1 t183 x9_6 = some (r1, r2, r3)) ∧ Aside0 (kq ≤ k) ∧ Aside0 (Kd.R (Kd.int .u8) 5 wc w.heap.size (fun _ => True) v185 t183) ∧ Aside0 (Below w.heap.size w wc))
    case first =>
     have H := HC7.out; clear HC7; have H' := Aside0.mk H; clear H; go_wp2; (repeat (go_quiet (fail); try go_wp2)); go_loopg [9] k (fun kq v9 w' => ∃ (x9_1 : Int), v9 = .int .i64 x9_1 ∧ Aside0 (tremaref01_At.l0 kq l0 a1 t183 x9_1 = some (r1, r2, r3)) ∧ Aside0 (kq ≤ k) ∧ Aside0 (Kd.R (Kd.int .u8) 5 w' w.heap.size (fun _ => True) v185 t183) ∧ Aside0 (Below w.heap.size w w'))
     case atStart => exact ⟨(1), (by first | rfl | (simp; done) | (simp [*]; done)), H', ⟨Nat.le_refl _⟩, ⟨by (with_reducible repeat (first | apply Kd.R_alloc | apply Kd.R_drewN | apply Kd.R_drew)); exact HO186.out⟩, ⟨by repeat (first | (with_reducible first | exact HB.out | apply below_alloc | apply pw_below_drewN | apply below_drew1) | exact HB.out)⟩⟩
     case round =>
      clear H'; (try clear p1); (try clear q1); (try clear hx1); (try clear p2); (try clear c3); (try clear c3b0); (try clear c4); (try clear c4b0); (try clear c6); (try clear c8); (try clear hx182_0); (try clear p182); (try clear q182); obtain ⟨x9_1, rfl, HA, HK1, HO_7, HB⟩ := hrel
      cases gk with
      | zero => exact absurd HA.out (by simp [tremaref01_At.l0])
      | succ k1 =>
       have H := HA.out; clear HA; simp only [tremaref01_At.l0] at H; by_cases c9 : x9_1 ≤ (wrap64 ((t183.length : Int) / 2))
       ·rw [if_pos c9] at H; have c9b0 : decide (x9_1 ≤ (wrap64 ((t183.length : Int) / 2))) = true := decide_eq_true c9; clear c9
        (first | rw [c9b0] | (simp only [i64_w, i32_w]; rw [c9b0]) | skip)
        by_cases c10 : (wrap64 (a1 + x9_1)) < (l0.length : Int)
        ·rw [if_pos c10] at H; have c10b0 : decide ((wrap64 (a1 + x9_1)) < (l0.length : Int)) = true := decide_eq_true c10; clear c10; obtain ⟨ji11, hji11⟩ : ∃ j_ : Int, (wrap64 (a1 + x9_1)) = j_ := ⟨_, rfl⟩; replace H : (if 0 ≤ (ji11) then (if 0 ≤ (wrap64 ((wrap64 (2 * x9_1)) - 2)) then (if (wrap64 ((wrap64 (2 * x9_1)) - 2)) < (t183.length : Int) then (if (rd l0 (ji11)) ≥ (rd t183 (wrap64 ((wrap64 (2 * x9_1)) - 2))) then (if 0 ≤ (wrap64 ((wrap64 (2 * x9_1)) - 1)) then (if (wrap64 ((wrap64 (2 * x9_1)) - 1)) < (t183.length : Int) then (if (rd l0 (ji11)) ≤ (rd t183 (wrap64 ((wrap64 (2 * x9_1)) - 1))) then (tremaref01_At.l0 k1 l0 a1 t183 (wrap64 (x9_1 + 1))) else (tremaref01_At.j1 k1 l0 a1 t183 x9_1)) else (none)) else (none)) else (tremaref01_At.j1 k1 l0 a1 t183 x9_1)) else (none)) else (none)) else (none)) = some (r1, r2, r3) := by first | (rw [hji11] at H; exact H) | (simp only [hji11] at H ⊢; exact H)
         (try rw [hji11] at c10b0)
         have hji11w : (IntKind.i64.wrap (a1 + x9_1)) = ji11 := (i64_w _).trans hji11; by_cases c12 : 0 ≤ (ji11)
         ·rw [if_pos c12] at H; have c12b0 : decide (0 ≤ (ji11)) = true := decide_eq_true c12; clear c12; obtain ⟨ji13, hji13⟩ : ∃ j_ : Int, (wrap64 ((wrap64 (2 * x9_1)) - 2)) = j_ := ⟨_, rfl⟩; (replace H : (if 0 ≤ (ji13) then (if (ji13) < (t183.length : Int) then (if (rd l0 (ji11)) ≥ (rd t183 (ji13)) then (if 0 ≤ (wrap64 ((wrap64 (2 * x9_1)) - 1)) then (if (wrap64 ((wrap64 (2 * x9_1)) - 1)) < (t183.length : Int) then (if (rd l0 (ji11)) ≤ (rd t183 (wrap64 ((wrap64 (2 * x9_1)) - 1))) then (tremaref01_At.l0 k1 l0 a1 t183 (wrap64 (x9_1 + 1))) else (tremaref01_At.j1 k1 l0 a1 t183 x9_1)) else (none)) else (none)) else (tremaref01_At.j1 k1 l0 a1 t183 x9_1)) else (none)) else (none)) = some (r1, r2, r3) := by first | (rw [hji13] at H; exact H) | (simp only [hji13] at H ⊢; exact H)); have hji13w : (IntKind.i64.wrap ((wrap64 (2 * x9_1)) - 2)) = ji13 := (i64_w _).trans hji13; by_cases c14 : 0 ≤ (ji13)
          ·rw [if_pos c14] at H; have c14b0 : decide (0 ≤ (ji13)) = true := decide_eq_true c14; clear c14; by_cases c15 : (ji13) < (t183.length : Int)
           ·rw [if_pos c15] at H; have c15b0 : decide ((ji13) < (t183.length : Int)) = true := decide_eq_true c15; clear c15; by_cases c16 : (rd l0 (ji11)) ≥ (rd t183 (ji13))
            ·rw [if_pos c16] at H; have c16b0 : decide ((rd t183 (ji13)) ≤ (rd l0 (ji11))) = true := decide_eq_true c16; clear c16; obtain ⟨ji17, hji17⟩ : ∃ j_ : Int, (wrap64 ((wrap64 (2 * x9_1)) - 1)) = j_ := ⟨_, rfl⟩; (replace H : (if 0 ≤ (ji17) then (if (ji17) < (t183.length : Int) then (if (rd l0 (ji11)) ≤ (rd t183 (ji17)) then (tremaref01_At.l0 k1 l0 a1 t183 (wrap64 (x9_1 + 1))) else (tremaref01_At.j1 k1 l0 a1 t183 x9_1)) else (none)) else (none)) = some (r1, r2, r3) := by first | (rw [hji17] at H; exact H) | (simp only [hji17] at H ⊢; exact H)); have hji17w : (IntKind.i64.wrap ((wrap64 (2 * x9_1)) - 1)) = ji17 := (i64_w _).trans hji17; by_cases c18 : 0 ≤ (ji17)
             ·rw [if_pos c18] at H; have c18b0 : decide (0 ≤ (ji17)) = true := decide_eq_true c18; clear c18; by_cases c19 : (ji17) < (t183.length : Int)
              ·rw [if_pos c19] at H; have c19b0 : decide ((ji17) < (t183.length : Int)) = true := decide_eq_true c19; clear c19; by_cases c20 : (rd l0 (ji11)) ≤ (rd t183 (ji17))
               ·rw [if_pos c20] at H; have c20b0 : decide ((rd l0 (ji11)) ≤ (rd t183 (ji17))) = true := decide_eq_true c20; clear c20; have H' := Aside0.mk H; clear H; obtain ⟨Ao21, co21, eo21⟩ := Kd.R_slice HO_7.out; subst eo21; have p187 : 0 ≤ ((ji11) : Int) := of_decide_eq_true (by first | (with_reducible assumption) | assumption); have q187 : (ji11) < (l0.length : Int) := of_decide_eq_true (by first | (with_reducible assumption) | assumption); obtain ⟨ad187, e187, hx187_0⟩ := Kd.at_int HR0.out (ji11) p187 q187; obtain rfl : ad182 = ad187 := (by injection e187); replace hx187_0 := (HB.out.cell (World.block_lt_of_cell? w _ hx187_0)).trans hx187_0; replace p187 := eq_true p187; replace q187 := eq_true q187; have p188 : 0 ≤ ((ji13) : Int) := of_decide_eq_true (by first | (with_reducible assumption) | assumption); have q188 : (ji13) < (t183.length : Int) := of_decide_eq_true (by first | (with_reducible assumption) | assumption); obtain ⟨ad188, e188, hx188_0⟩ := Kd.at_int (Kd.R_reads' HO_7.out).2.2 (ji13) p188 q188; cases e188; replace p188 := eq_true p188; replace q188 := eq_true q188; have p189 : 0 ≤ ((ji11) : Int) := of_decide_eq_true (by first | (with_reducible assumption) | assumption); have q189 : (ji11) < (l0.length : Int) := of_decide_eq_true (by first | (with_reducible assumption) | assumption); obtain ⟨ad189, e189, hx189_0⟩ := Kd.at_int HR0.out (ji11) p189 q189; obtain rfl : ad182 = ad189 := (by injection e189); replace hx189_0 := (HB.out.cell (World.block_lt_of_cell? w _ hx189_0)).trans hx189_0; replace p189 := eq_true p189; replace q189 := eq_true q189; have p190 : 0 ≤ ((ji17) : Int) := of_decide_eq_true (by first | (with_reducible assumption) | assumption); have q190 : (ji17) < (t183.length : Int) := of_decide_eq_true (by first | (with_reducible assumption) | assumption); obtain ⟨ad190, e190, hx190_0⟩ := Kd.at_int (Kd.R_reads' HO_7.out).2.2 (ji17) p190 q190; obtain rfl : ad188 = ad190 := (by injection e190); replace p190 := eq_true p190; replace q190 := eq_true q190; go_wp2; (repeat (go_quiet (fail); try go_wp2)); go_roundg k1
                case measure => have := HK1.out; omega
                case rel => exact ⟨(wrap64 (x9_1 + 1)), (by first | rfl | (simp; done) | (simp [*]; done)), H', ⟨by have := HK1.out; omega⟩, ⟨by (with_reducible repeat (first | apply Kd.R_alloc | apply Kd.R_drewN | apply Kd.R_drew)); exact HO_7.out⟩, ⟨by repeat (first | (with_reducible first | exact HB.out | apply below_alloc | apply pw_below_drewN | apply below_drew1) | exact HB.out)⟩⟩
               ·rw [if_neg c20] at H; have c20b0 : decide ((rd l0 (ji11)) ≤ (rd t183 (ji17))) = false := decide_eq_false c20; clear c20; have H' := Aside0.mk H; clear H; obtain ⟨Ao22, co22, eo22⟩ := Kd.R_slice HO_7.out; subst eo22; have p187 : 0 ≤ ((ji11) : Int) := of_decide_eq_true (by first | (with_reducible assumption) | assumption); have q187 : (ji11) < (l0.length : Int) := of_decide_eq_true (by first | (with_reducible assumption) | assumption); obtain ⟨ad187, e187, hx187_0⟩ := Kd.at_int HR0.out (ji11) p187 q187; obtain rfl : ad182 = ad187 := (by injection e187); replace hx187_0 := (HB.out.cell (World.block_lt_of_cell? w _ hx187_0)).trans hx187_0; replace p187 := eq_true p187; replace q187 := eq_true q187; have p188 : 0 ≤ ((ji13) : Int) := of_decide_eq_true (by first | (with_reducible assumption) | assumption); have q188 : (ji13) < (t183.length : Int) := of_decide_eq_true (by first | (with_reducible assumption) | assumption); obtain ⟨ad188, e188, hx188_0⟩ := Kd.at_int (Kd.R_reads' HO_7.out).2.2 (ji13) p188 q188; cases e188; replace p188 := eq_true p188; replace q188 := eq_true q188; have p189 : 0 ≤ ((ji11) : Int) := of_decide_eq_true (by first | (with_reducible assumption) | assumption); have q189 : (ji11) < (l0.length : Int) := of_decide_eq_true (by first | (with_reducible assumption) | assumption); obtain ⟨ad189, e189, hx189_0⟩ := Kd.at_int HR0.out (ji11) p189 q189; obtain rfl : ad182 = ad189 := (by injection e189); replace hx189_0 := (HB.out.cell (World.block_lt_of_cell? w _ hx189_0)).trans hx189_0; replace p189 := eq_true p189; replace q189 := eq_true q189; have p190 : 0 ≤ ((ji17) : Int) := of_decide_eq_true (by first | (with_reducible assumption) | assumption); have q190 : (ji17) < (t183.length : Int) := of_decide_eq_true (by first | (with_reducible assumption) | assumption); obtain ⟨ad190, e190, hx190_0⟩ := Kd.at_int (Kd.R_reads' HO_7.out).2.2 (ji17) p190 q190; obtain rfl : ad188 = ad190 := (by injection e190); replace p190 := eq_true p190; replace q190 := eq_true q190; go_wp2; (repeat (go_quiet (fail); try go_wp2)); go_meet
                case rel => exact ⟨_, (x9_1), (by first | rfl | (simp; done) | (simp [*]; done)), H', ⟨by have := HK1.out; first | omega | exact Nat.le_refl _⟩, ⟨by (with_reducible repeat (first | apply Kd.R_alloc | apply Kd.R_drewN | apply Kd.R_drew)); exact HO_7.out⟩, ⟨by repeat (first | (with_reducible first | exact HB.out | apply below_alloc | apply pw_below_drewN | apply below_drew1) | exact HB.out)⟩⟩
              ·rw [if_neg c19] at H; exact absurd H (by simp)
             ·rw [if_neg c18] at H; exact absurd H (by simp)
            ·rw [if_neg c16] at H; have c16b0 : decide ((rd t183 (ji13)) ≤ (rd l0 (ji11))) = false := decide_eq_false c16; clear c16; have H' := Aside0.mk H; clear H; obtain ⟨Ao23, co23, eo23⟩ := Kd.R_slice HO_7.out; subst eo23; have p187 : 0 ≤ ((ji11) : Int) := of_decide_eq_true (by first | (with_reducible assumption) | assumption); have q187 : (ji11) < (l0.length : Int) := of_decide_eq_true (by first | (with_reducible assumption) | assumption); obtain ⟨ad187, e187, hx187_0⟩ := Kd.at_int HR0.out (ji11) p187 q187; obtain rfl : ad182 = ad187 := (by injection e187); replace hx187_0 := (HB.out.cell (World.block_lt_of_cell? w _ hx187_0)).trans hx187_0; replace p187 := eq_true p187; replace q187 := eq_true q187; have p188 : 0 ≤ ((ji13) : Int) := of_decide_eq_true (by first | (with_reducible assumption) | assumption); have q188 : (ji13) < (t183.length : Int) := of_decide_eq_true (by first | (with_reducible assumption) | assumption); obtain ⟨ad188, e188, hx188_0⟩ := Kd.at_int (Kd.R_reads' HO_7.out).2.2 (ji13) p188 q188; cases e188; replace p188 := eq_true p188; replace q188 := eq_true q188; go_wp2; (repeat (go_quiet (fail); try go_wp2)); go_meet
             case rel => exact ⟨_, (x9_1), (by first | rfl | (simp; done) | (simp [*]; done)), H', ⟨by have := HK1.out; first | omega | exact Nat.le_refl _⟩, ⟨by (with_reducible repeat (first | apply Kd.R_alloc | apply Kd.R_drewN | apply Kd.R_drew)); exact HO_7.out⟩, ⟨by repeat (first | (with_reducible first | exact HB.out | apply below_alloc | apply pw_below_drewN | apply below_drew1) | exact HB.out)⟩⟩
           ·rw [if_neg c15] at H; exact absurd H (by simp)
          ·rw [if_neg c14] at H; exact absurd H (by simp)
         ·rw [if_neg c12] at H; exact absurd H (by simp)
        ·rw [if_neg c10] at H; have c10b0 : decide ((wrap64 (a1 + x9_1)) < (l0.length : Int)) = false := decide_eq_false c10; clear c10; have H' := Aside0.mk H; clear H; obtain ⟨Ao24, co24, eo24⟩ := Kd.R_slice HO_7.out; subst eo24; go_wp2; (repeat (go_quiet (fail); try go_wp2)); go_meet
         case rel => exact ⟨_, (x9_1), (by first | rfl | (simp; done) | (simp [*]; done)), H', ⟨by have := HK1.out; first | omega | exact Nat.le_refl _⟩, ⟨by (with_reducible repeat (first | apply Kd.R_alloc | apply Kd.R_drewN | apply Kd.R_drew)); exact HO_7.out⟩, ⟨by repeat (first | (with_reducible first | exact HB.out | apply below_alloc | apply pw_below_drewN | apply below_drew1) | exact HB.out)⟩⟩
       ·rw [if_neg c9] at H; have c9b0 : decide (x9_1 ≤ (wrap64 ((t183.length : Int) / 2))) = false := decide_eq_false c9; clear c9
        (first | rw [c9b0] | (simp only [i64_w, i32_w]; rw [c9b0]) | skip)
        have H' := Aside0.mk H; clear H; obtain ⟨Ao25, co25, eo25⟩ := Kd.R_slice HO_7.out; subst eo25; go_wp2; (repeat (go_quiet (fail); try go_wp2)); go_meet
        case rel => exact ⟨_, (x9_1), (by first | rfl | (simp; done) | (simp [*]; done)), H', ⟨by have := HK1.out; first | omega | exact Nat.le_refl _⟩, ⟨by (with_reducible repeat (first | apply Kd.R_alloc | apply Kd.R_drewN | apply Kd.R_drew)); exact HO_7.out⟩, ⟨by repeat (first | (with_reducible first | exact HB.out | apply below_alloc | apply pw_below_drewN | apply below_drew1) | exact HB.out)⟩⟩
    case rest =>
     clear HC7; (try clear c1); (try clear p1); (try clear q1); (try clear hx1); (try clear c2); (try clear p2); (try clear c3); (try clear c3b0); (try clear c4); (try clear c4b0); (try clear c6); (try clear p6); (try clear c8); (try clear c9); (try clear c9b0); (try clear c10); (try clear c10b0); (try clear c12); (try clear c12b0); (try clear c14); (try clear c14b0); (try clear c15); (try clear c15b0); (try clear c16); (try clear c16b0); (try clear c18); (try clear c18b0); (try clear p18); (try clear q18); (try clear hx18); (try clear c19); (try clear c19b0); (try clear p19); (try clear q19); (try clear hx19); (try clear c20); (try clear c20b0); (try clear hx182_0); (try clear hx187_0); (try clear hx188_0); (try clear hx189_0); (try clear hx190_0); (try clear p1); (try clear p182); (try clear p187); (try clear p188); (try clear p189); (try clear p190); (try clear p2); (try clear q1); (try clear q182); (try clear q187); (try clear q188); (try clear q189); (try clear q190); obtain ⟨kq, x9_6, rfl, HA, HJ6, HO_7, HB⟩ := hcut
     cases kq with
     | zero => exact absurd HA.out (by simp [tremaref01_At.j1])
     | succ kj6 =>
      have H := HA.out; clear HA; simp only [tremaref01_At.j1] at H; by_cases c26 : x9_6 ≤ (wrap64 ((t183.length : Int) / 2))
      ·rw [if_pos c26] at H; have c26b0 : decide (x9_6 ≤ (wrap64 ((t183.length : Int) / 2))) = true := decide_eq_true c26; clear c26; simp only [Option.some.injEq, Prod.mk.injEq] at H; obtain ⟨rfl, rfl, rfl⟩ := H; obtain ⟨Ao27, co27, eo27⟩ := Kd.R_slice HO_7.out; subst eo27; go_wp2; (repeat (go_quiet (fail); try go_wp2)); go_ret3; exact ⟨by first | rfl | (simp [errW_none, errW_some] <;> rfl) | (simp [*, errW_none, errW_some] <;> rfl), by repeat (first | (with_reducible first | exact HB.out | apply below_alloc | apply pw_below_drewN | apply below_drew1) | exact HB.out)⟩
      ·rw [if_neg c26] at H; have c26b0 : decide (x9_6 ≤ (wrap64 ((t183.length : Int) / 2))) = false := decide_eq_false c26; clear c26; by_cases c28 : x9_6 = 1
       ·rw [if_pos c28] at H; have c28b0 : (x9_6 == 1) = true := beq_iff_eq.mpr c28; have c28b1 : (x9_6 != 1) = false := bne_eq_false_iff_eq.mpr c28; clear c28; by_cases c29 : 0 ≤ a1
        ·rw [if_pos c29] at H; have c29b0 : decide (0 ≤ a1) = true := decide_eq_true c29; clear c29; by_cases c30 : a1 < (l0.length : Int)
         ·rw [if_pos c30] at H; have c30b0 : decide (a1 < (l0.length : Int)) = true := decide_eq_true c30; clear c30; simp only [Option.some.injEq, Prod.mk.injEq] at H; obtain ⟨rfl, rfl, rfl⟩ := H; obtain ⟨Ao31, co31, eo31⟩ := Kd.R_slice HO_7.out; subst eo31; have p191 : 0 ≤ (a1 : Int) := of_decide_eq_true (by first | (with_reducible assumption) | assumption); have q191 : a1 < (l0.length : Int) := of_decide_eq_true (by first | (with_reducible assumption) | assumption); obtain ⟨ad191, e191, hx191_0⟩ := Kd.at_int HR0.out a1 p191 q191; obtain rfl : ad182 = ad191 := (by injection e191); replace hx191_0 := (HB.out.cell (World.block_lt_of_cell? w _ hx191_0)).trans hx191_0; replace p191 := eq_true p191; replace q191 := eq_true q191; go_wp2; (repeat (go_quiet (fail); try go_wp2)); go_ret3; exact ⟨by first | rfl | (simp [errW_none, errW_some] <;> rfl) | (simp [*, errW_none, errW_some] <;> rfl), by repeat (first | (with_reducible first | exact HB.out | apply below_alloc | apply pw_below_drewN | apply below_drew1) | exact HB.out)⟩
         ·rw [if_neg c30] at H; exact absurd H (by simp)
        ·rw [if_neg c29] at H; exact absurd H (by simp)
       ·rw [if_neg c28] at H; have c28b0 : (x9_6 == 1) = false := beq_eq_false_iff_ne.mpr c28; have c28b1 : (x9_6 != 1) = true := bne_iff_ne.mpr c28; by_cases c32 : 0 ≤ a1
        ·rw [if_pos c32] at H; have c32b0 : decide (0 ≤ a1) = true := decide_eq_true c32; clear c32; by_cases c33 : a1 < (l0.length : Int)
         ·rw [if_pos c33] at H; have c33b0 : decide (a1 < (l0.length : Int)) = true := decide_eq_true c33; clear c33; obtain ⟨ji34, hji34⟩ : ∃ j_ : Int, (wrap64 (7 - x9_6)) = j_ := ⟨_, rfl⟩; (replace H : (if 0 ≤ (ji34) then (if (shl .i32 1 (ji34)) = 0 then (none) else (tremaref01_At.l1 kj6 l0 a1 x9_6 (Int.tmod (wrap32 (rd l0 a1)) (shl .i32 1 (ji34))) 1)) else (none)) = some (r1, r2, r3) := by first | (rw [hji34] at H; exact H) | (simp only [hji34] at H ⊢; exact H)); have hji34w : (IntKind.i64.wrap (7 - x9_6)) = ji34 := (i64_w _).trans hji34; by_cases c35 : 0 ≤ (ji34)
          ·rw [if_pos c35] at H; have c35b0 := eq_true c35; have c35b1 : decide (0 ≤ (ji34)) = true := decide_eq_true c35; clear c35; obtain ⟨ji36, hji36⟩ : ∃ j_ : Int, (shl .i32 1 (ji34)) = j_ := ⟨_, rfl⟩; (replace H : (if (ji36) = 0 then (none) else (tremaref01_At.l1 kj6 l0 a1 x9_6 (Int.tmod (wrap32 (rd l0 a1)) (ji36)) 1)) = some (r1, r2, r3) := by first | (rw [hji36] at H; exact H) | (simp only [hji36] at H ⊢; exact H)); have hji36_ : (IntKind.i32.wrap (1 * 2 ^ min (ji34).toNat 32)) = ji36 := hji36; have hji36z : (ji34) ≤ 32 → (IntKind.i32.wrap (1 * 2 ^ (ji34).toNat)) = ji36 := shl_small hji36; (have hji36u : (IntKind.i32.wrap (2 ^ min (ji34).toNat 32)) = ji36 := by have h_ := hji36_; rw [Int.one_mul] at h_; exact h_); (have hji36v : (ji34) ≤ 32 → (IntKind.i32.wrap (2 ^ (ji34).toNat)) = ji36 := fun hle_ => by have h_ := hji36z hle_; rw [Int.one_mul] at h_; exact h_); have hji36y : (wrap32 (1 * 2 ^ min (ji34).toNat 32)) = ji36 := (i32_w _).symm.trans hji36_; (have hji36x : (ji34) ≤ 32 → (wrap32 (1 * 2 ^ (ji34).toNat)) = ji36 := fun h_ => (i32_w _).symm.trans (hji36z h_)); by_cases c37 : (ji36) = 0
           ·rw [if_pos c37] at H; exact absurd H (by simp)
           ·rw [if_neg c37] at H; have c37b0 : ((ji36) == 0) = false := beq_eq_false_iff_ne.mpr c37; have c37b1 : ((ji36) != 0) = true := bne_iff_ne.mpr c37; have H' := Aside0.mk H; clear H; obtain ⟨Ao38, co38, eo38⟩ := Kd.R_slice HO_7.out; subst eo38; have p192 : 0 ≤ (a1 : Int) := of_decide_eq_true (by first | (with_reducible assumption) | assumption); have q192 : a1 < (l0.length : Int) := of_decide_eq_true (by first | (with_reducible assumption) | assumption); obtain ⟨ad192, e192, hx192_0⟩ := Kd.at_int HR0.out a1 p192 q192; obtain rfl : ad182 = ad192 := (by injection e192); replace hx192_0 := (HB.out.cell (World.block_lt_of_cell? w _ hx192_0)).trans hx192_0; replace p192 := eq_true p192; replace q192 := eq_true q192; go_wp2; (repeat (go_quiet (fail); try go_wp2)); go_loopg [10, 11] kj6 (fun kq v10 v11 w' => ∃ (x10_2 : Int) (x11_2 : Int), v10 = .int .i32 x10_2 ∧ v11 = .int .i64 x11_2 ∧ Aside0 (tremaref01_At.l1 kq l0 a1 x9_6 x10_2 x11_2 = some (r1, r2, r3)) ∧ Aside0 (kq ≤ kj6) ∧ Aside0 (Below w.heap.size w w'))
            case atStart => exact ⟨(Int.tmod (wrap32 (rd l0 a1)) (ji36)), (1), (by first | rfl | (simp; done) | (simp only [← hji36] <;> (first | rfl | simp)) | (simp [*]; done)), (by first | rfl | (simp; done) | (simp [*]; done)), H', ⟨Nat.le_refl _⟩, ⟨by repeat (first | (with_reducible first | exact HB.out | apply below_alloc | apply pw_below_drewN | apply below_drew1) | exact HB.out)⟩⟩
            case round =>
             clear H'; (try clear c1); (try clear p1); (try clear q1); (try clear hx1); (try clear c2); (try clear p2); (try clear c3); (try clear c3b0); (try clear p3); (try clear c4); (try clear c4b0); (try clear c6); (try clear p6); (try clear c8); (try clear c9); (try clear c9b0); (try clear c10); (try clear c10b0); (try clear c12); (try clear c12b0); (try clear c14); (try clear c14b0); (try clear c15); (try clear c15b0); (try clear c16); (try clear c16b0); (try clear c18); (try clear c18b0); (try clear p18); (try clear q18); (try clear hx18); (try clear c19); (try clear c19b0); (try clear p19); (try clear q19); (try clear hx19); (try clear c20); (try clear c20b0); (try clear c26); (try clear c26b0); (try clear c28); (try clear c28b0); (try clear c28b1); (try clear c29); (try clear c29b0); (try clear c30); (try clear c30b0); (try clear c32); (try clear c32b0); (try clear p32); (try clear c33); (try clear c33b0); (try clear c35); (try clear c35b0); (try clear c35b1); (try clear c37); (try clear c37b0); (try clear c37b1); (try clear hx182_0); (try clear hx187_0); (try clear hx188_0); (try clear hx189_0); (try clear hx190_0); (try clear hx191_0); (try clear hx192_0); (try clear p1); (try clear p18); (try clear p182); (try clear p187); (try clear p188); (try clear p189); (try clear p19); (try clear p190); (try clear p191); (try clear p192); (try clear p2); (try clear p6); (try clear q1); (try clear q18); (try clear q182); (try clear q187); (try clear q188); (try clear q189); (try clear q19); (try clear q190); (try clear q191); (try clear q192); obtain ⟨x10_2, x11_2, rfl, rfl, HA, HK2, HB⟩ := hrel
             cases gk with
             | zero => exact absurd HA.out (by simp [tremaref01_At.l1])
             | succ k2 =>
              have H := HA.out; clear HA; simp only [tremaref01_At.l1] at H; by_cases c39 : x11_2 < x9_6
              ·rw [if_pos c39] at H; have c39b0 : decide (x11_2 < x9_6) = true := decide_eq_true c39; clear c39; obtain ⟨ji40, hji40⟩ : ∃ j_ : Int, (wrap64 (a1 + x11_2)) = j_ := ⟨_, rfl⟩; (replace H : (if 0 ≤ (ji40) then (if (ji40) < (l0.length : Int) then (tremaref01_At.l1 k2 l0 a1 x9_6 (wrap32 ((wrap32 (x10_2 * 64)) + (Int.tmod (wrap32 (rd l0 (ji40))) 64))) (wrap64 (x11_2 + 1))) else (none)) else (none)) = some (r1, r2, r3) := by first | (rw [hji40] at H; exact H) | (simp only [hji40] at H ⊢; exact H)); have hji40w : (IntKind.i64.wrap (a1 + x11_2)) = ji40 := (i64_w _).trans hji40; by_cases c41 : 0 ≤ (ji40)
               ·rw [if_pos c41] at H; have c41b0 : decide (0 ≤ (ji40)) = true := decide_eq_true c41; clear c41; by_cases c42 : (ji40) < (l0.length : Int)
                ·rw [if_pos c42] at H; have c42b0 : decide ((ji40) < (l0.length : Int)) = true := decide_eq_true c42; clear c42; have H' := Aside0.mk H; clear H; have p193 : 0 ≤ ((ji40) : Int) := of_decide_eq_true (by first | (with_reducible assumption) | assumption); have q193 : (ji40) < (l0.length : Int) := of_decide_eq_true (by first | (with_reducible assumption) | assumption); obtain ⟨ad193, e193, hx193_0⟩ := Kd.at_int HR0.out (ji40) p193 q193; obtain rfl : ad182 = ad193 := (by injection e193); replace hx193_0 := (HB.out.cell (World.block_lt_of_cell? w _ hx193_0)).trans hx193_0; replace p193 := eq_true p193; replace q193 := eq_true q193; go_wp2; (repeat (go_quiet (fail); try go_wp2)); go_roundg k2
                 case measure => have := HJ6.out; have := HK2.out; omega
                 case rel => exact ⟨(wrap32 ((wrap32 (x10_2 * 64)) + (Int.tmod (wrap32 (rd l0 (ji40))) 64))), (wrap64 (x11_2 + 1)), (by first | rfl | (simp; done) | (simp only [← hji40] <;> (first | rfl | simp)) | (simp [*]; done)), (by first | rfl | (simp; done) | (simp [*]; done)), H', ⟨by have := HJ6.out; have := HK2.out; omega⟩, ⟨by repeat (first | (with_reducible first | exact HB.out | apply below_alloc | apply pw_below_drewN | apply below_drew1) | exact HB.out)⟩⟩
                ·rw [if_neg c42] at H; exact absurd H (by simp)
               ·rw [if_neg c41] at H; exact absurd H (by simp)
              ·rw [if_neg c39] at H; have c39b0 : decide (x11_2 < x9_6) = false := decide_eq_false c39; clear c39; simp only [Option.some.injEq, Prod.mk.injEq] at H; obtain ⟨rfl, rfl, rfl⟩ := H; go_wp2; (repeat (go_quiet (fail); try go_wp2)); go_ret3; exact ⟨by first | rfl | (simp [errW_none, errW_some] <;> rfl) | (simp only [← hji34, ← hji36]; first | rfl | (simp [errW_none, errW_some] <;> rfl)) | (simp [*, errW_none, errW_some] <;> rfl), by repeat (first | (with_reducible first | exact HB.out | apply below_alloc | apply pw_below_drewN | apply below_drew1) | exact HB.out)⟩
          ·rw [if_neg c35] at H; exact absurd H (by simp)
         ·rw [if_neg c33] at H; exact absurd H (by simp)
        ·rw [if_neg c32] at H; exact absurd H (by simp)
   ·replace c6 := Bool.eq_false_iff.mpr c6; subst c6; rw [if_neg (show ¬ (false = true) by decide)] at H; simp only [Option.some.injEq, Prod.mk.injEq] at H; obtain ⟨rfl, rfl, rfl⟩ := H; have p182 : 0 ≤ (a1 : Int) := of_decide_eq_true (by first | (with_reducible assumption) | assumption); have q182 : a1 < (l0.length : Int) := of_decide_eq_true (by first | (with_reducible assumption) | assumption); obtain ⟨ad182, e182, hx182_0⟩ := Kd.at_int HR0.out a1 p182 q182; cases e182; replace p182 := eq_true p182; replace q182 := eq_true q182; go_enter Tryd.func82, Tryd.ntmps82; go_wp2_with (first | (go_at_call 98; (with_reducible refine (tremaref01_row.calls k (rd l0 a1) t183 false _ A5.out).mono ?_); rintro e w43 ⟨v185, rfl, ho0, hb⟩; have n0_ := Aside0.mk (Kd.R_lower ho0 (below_size (by repeat (first | (with_reducible first | exact HB.out | apply below_alloc | apply pw_below_drewN | apply below_drew1) | exact HB.out)))); have n1_ := Aside0.mk (below_step (by repeat (first | (with_reducible first | exact HB.out | apply below_alloc | apply pw_below_drewN | apply below_drew1) | exact HB.out)) hb); clear HB; have HO186 := n0_; have HB := n1_; clear n0_ n1_; (try clear hb); (try clear hb2); (try clear hk); (try clear hi); (try clear ho0))); (repeat (go_quiet (first | (go_at_call 98; (with_reducible refine (tremaref01_row.calls k (rd l0 a1) t183 false _ A5.out).mono ?_); rintro e w43 ⟨v185, rfl, ho0, hb⟩; have n0_ := Aside0.mk (Kd.R_lower ho0 (below_size (by repeat (first | (with_reducible first | exact HB.out | apply below_alloc | apply pw_below_drewN | apply below_drew1) | exact HB.out)))); have n1_ := Aside0.mk (below_step (by repeat (first | (with_reducible first | exact HB.out | apply below_alloc | apply pw_below_drewN | apply below_drew1) | exact HB.out)) hb); clear HB; have HO186 := n0_; have HB := n1_; clear n0_ n1_; (try clear hb); (try clear hb2); (try clear hk); (try clear hi); (try clear ho0))); try go_wp2_with (first | (go_at_call 98; (with_reducible refine (tremaref01_row.calls k (rd l0 a1) t183 false _ A5.out).mono ?_); rintro e w43 ⟨v185, rfl, ho0, hb⟩; have n0_ := Aside0.mk (Kd.R_lower ho0 (below_size (by repeat (first | (with_reducible first | exact HB.out | apply below_alloc | apply pw_below_drewN | apply below_drew1) | exact HB.out)))); have n1_ := Aside0.mk (below_step (by repeat (first | (with_reducible first | exact HB.out | apply below_alloc | apply pw_below_drewN | apply below_drew1) | exact HB.out)) hb); clear HB; have HO186 := n0_; have HB := n1_; clear n0_ n1_; (try clear hb); (try clear hb2); (try clear hk); (try clear hi); (try clear ho0))))); go_ret3; exact ⟨by first | rfl | (simp [errW_none, errW_some] <;> rfl) | (simp [*, errW_none, errW_some] <;> rfl), by repeat (first | (with_reducible first | exact HB.out | apply below_alloc | apply pw_below_drewN | apply below_drew1) | exact HB.out)⟩
  ·rw [if_neg c4] at H; exact absurd H (by simp)
 ·rw [if_neg c3] at H; exact absurd H (by simp)
end Go.Proofs.YthffpkdadffinaaDoor.X
namespace Go.Proofs.YthffpkdadffinaaDoor.X
open Go.RowKit YthffpkdadffinaaDoorW.PrintWords YthffpkdadffinaaDoorW.PrintLast YthffpkdadffinaaDoorW.PrintMore
attribute [local go_sem] max2_int min2_int max_two min_two max_three min_three max_four min_four   
set_option linter.unusedVariables false
set_option linter.unusedSimpArgs false
def tremaref01_Decode.l0 : Nat → List Int → Bool → List (S103) → Int → Option ((List (S103)))
 | 0, _, _, _, _ => none
 | k + 1, x0, x1, x5, x6 => if x6 < (x0.length : Int) then ((tremaref01_At.f k x0 x6).bind fun bt194 => (if x1 = true then (if bt194.2.2 = true then (some x5) else (if x5.length < 5864062014805 then (tremaref01_Decode.l0 k x0 x1 (x5 ++ [(⟨bt194.1, x6, bt194.2.1⟩ : S103)]) (wrap64 (x6 + bt194.2.1))) else (none))) else (if x5.length < 5864062014805 then (tremaref01_Decode.l0 k x0 x1 (x5 ++ [(⟨bt194.1, x6, bt194.2.1⟩ : S103)]) (wrap64 (x6 + bt194.2.1))) else (none)))) else (some x5)
def tremaref01_Decode.f (k : Nat) (l0 : List Int) (a1 : Bool) : Option ((List (S103))) := tremaref01_Decode.l0 k l0 a1 ([] : List (S103)) 0
theorem tremaref01_Decode.mono_l : ∀ k, (∀ y0 y1 y2 y3, LeO (tremaref01_Decode.l0 k y0 y1 y2 y3) (tremaref01_Decode.l0 (k + 1) y0 y1 y2 y3))
 | 0 => fun _ _ _ _ r h => by simp [tremaref01_Decode.l0] at h
 | k + 1 => by
  have ih0 := tremaref01_Decode.mono_l k
  ·intro y0 y1 y2 y3; unfold tremaref01_Decode.l0; repeat' first | (with_reducible exact ih0 _ _ _ _) | (with_reducible exact tremaref01_At.mono _ _ _) | (with_reducible exact LeO.refl _) | (with_reducible exact LeO.none _) | (with_reducible refine LeO.ite ?_ ?_) | (with_reducible refine LeO.bind ?_ (fun _ => ?_)) | exact ih0 _ _ _ _ | exact tremaref01_At.mono _ _ _ | exact LeO.none _ | refine LeO.ite ?_ ?_ | refine LeO.bind ?_ (fun _ => ?_)
theorem tremaref01_Decode.mono : ∀ a0 a1 k, LeO (tremaref01_Decode.f k a0 a1) (tremaref01_Decode.f (k + 1) a0 a1) := by
 intro a0 a1 k; have ih0 := tremaref01_Decode.mono_l k; unfold tremaref01_Decode.f; repeat' first | (with_reducible exact ih0 _ _ _ _) | (with_reducible exact tremaref01_At.mono _ _ _) | (with_reducible exact LeO.refl _) | (with_reducible exact LeO.none _) | (with_reducible refine LeO.ite ?_ ?_) | (with_reducible refine LeO.bind ?_ (fun _ => ?_)) | exact ih0 _ _ _ _ | exact tremaref01_At.mono _ _ _ | exact LeO.none _ | refine LeO.ite ?_ ?_ | refine LeO.bind ?_ (fun _ => ?_)
set_option maxHeartbeats 8000000 in
set_option maxRecDepth 100000 in
theorem tremaref01_Decode.calls (k : Nat) (A0 : Option Addr) (c0 : Nat) (l0 : List Int) (a1 : Bool) (r : List (S103)) (w : World) (hr0 : Kd.C (Kd.int .u8) w A0 l0.length l0) (hc0 : l0.length ≤ c0) (h : tremaref01_Decode.f k l0 a1 = some r) :
  Calls Tryd.prog 47 #[.slice A0 l0.length c0, .bool a1] w fun e w' => ∃ v0_ : Value, e = .returned (v0_) ∧ Kd.R k103 103 w' w.heap.size (fun _ => True) v0_ r ∧ Below w.heap.size w w' := by
 have hu103 := Tryd.underlying103; have HR0 := Aside0.mk hr0; have HC0 := Aside0.mk hc0; clear hr0 hc0; have HB := Aside0.mk (Below.refl w.heap.size w); have H : (tremaref01_Decode.l0 k l0 a1 ([] : List (S103)) 0) = some r := h; clear h; have H' := Aside0.mk H; clear H; go_enter Tryd.func47, Tryd.ntmps47; go_wp2; go_loopg [5, 6] k (fun kq v5 v6 w' => ∃ (x5_1 : List (S103)) (x6_1 : Int), v6 = .int .i64 x6_1 ∧ Aside0 (tremaref01_Decode.l0 kq l0 a1 x5_1 x6_1 = some r) ∧ Aside0 (kq ≤ k) ∧ Aside0 (Kd.R k103 103 w' w.heap.size (fun _ => True) v5 x5_1) ∧ Aside0 (Below w.heap.size w w'))
 case atStart => exact ⟨(([] : List (S103))), (0), (by first | rfl | (simp; done) | (simp [*]; done)), H', ⟨Nat.le_refl _⟩, ⟨by first | exact Kd.R_nil _ _ _ _ _ | exact Kd.N_nil _ _ _ _ _ | exact Kd.V_nil _ _ _ _ _ | exact Kd.Q_nil _ _ _ _ _ | exact Kd.S_nil _ _ _ _ _⟩, ⟨by repeat (first | (with_reducible first | exact HB.out | apply below_alloc | apply pw_below_drewN | apply below_drew1) | exact HB.out)⟩⟩
 case round =>
  clear H'; (try clear p2); obtain ⟨x5_1, x6_1, rfl, HA, HK1, HO_5, HB⟩ := hrel
  cases gk with
  | zero => exact absurd HA.out (by simp [tremaref01_Decode.l0])
  | succ k1 =>
   have H := HA.out; clear HA; simp only [tremaref01_Decode.l0] at H; by_cases c3 : x6_1 < (l0.length : Int)
   ·rw [if_pos c3] at H; have c3b0 : decide (x6_1 < (l0.length : Int)) = true := decide_eq_true c3; clear c3; replace H := Option.bind_eq_some_iff.mp H; obtain ⟨⟨t194, t195, t196⟩, A40, H⟩ := H; (try dsimp only at H); have A4 := Aside0.mk A40; clear A40; by_cases c5 : a1 = true
    ·subst c5; rw [if_pos rfl] at H; by_cases c6 : t196 = true
     ·subst c6; rw [if_pos rfl] at H; obtain rfl := Option.some.inj H; go_wp2_with (first | ((with_reducible refine gate_callee (f := 82) rfl ?_); refine goesL_ (some 17) rfl rfl Tryd.func82 (by kernel_rfl) rfl #[.slice A0 l0.length c0, .int .i64 x6_1] rfl (by (try simp only [List.map_toArray, List.map_cons, List.map_nil]); first | done | rfl | (simp only [List.length_drop, List.length_take]; rfl)) ?_; (with_reducible refine (tremaref01_At.calls k1 _ _ l0 x6_1 t194 t195 true _ ?side1 ?side2 A4.out).mono ?_); (case side1 => repeat (first | exact (Kd.C_below HR0.out HB.out) | (with_reducible refine Kd.C_alloc ?_ _) | (with_reducible refine Kd.C_drewN ?_ _) | (with_reducible refine Kd.C_drew ?_))); (case side2 => exact HC0.out); rintro e w7 ⟨rfl, hb⟩; refine ⟨_, rfl, ?_⟩; have n0_ := Aside0.mk (Kd.R_below (by (with_reducible repeat (first | apply Kd.R_alloc | apply Kd.R_drewN | apply Kd.R_drew)); exact HO_5.out) hb); have n1_ := Aside0.mk (below_step (by repeat (first | (with_reducible first | exact HB.out | apply below_alloc | apply pw_below_drewN | apply below_drew1) | exact HB.out)) hb); clear HO_5; clear HB; have HO_5 := n0_; have HB := n1_; clear n0_ n1_; (try clear hb); (try clear hb2); (try clear hk); (try clear hi))); go_ret; exact ⟨_, by first | rfl | (simp [errW_none, errW_some] <;> rfl) | (simp [*, errW_none, errW_some] <;> rfl), by (with_reducible repeat (first | apply Kd.R_alloc | apply Kd.R_drewN | apply Kd.R_drew)); exact HO_5.out, by repeat (first | (with_reducible first | exact HB.out | apply below_alloc | apply pw_below_drewN | apply below_drew1) | exact HB.out)⟩
     ·replace c6 := Bool.eq_false_iff.mpr c6; subst c6; rw [if_neg (show ¬ (false = true) by decide)] at H; by_cases c8 : x5_1.length < 5864062014805
      ·rw [if_pos c8] at H; have LMc8 := Aside0.mk c8; clear c8; obtain ⟨y197, hy197⟩ : ∃ y_ : List (S103), y_ = (x5_1 ++ [(⟨t194, x6_1, t195⟩ : S103)]) := ⟨_, rfl⟩; (replace H : (tremaref01_Decode.l0 k1 l0 true y197 (wrap64 (x6_1 + t195))) = some r := by first | (rw [hy197]; with_reducible exact H) | (have H2_ := (Option.bind_some _ _).symm.trans H; rw [hy197]; with_reducible exact H2_) | (have H2_ := (Option.bind_some _ _).symm.trans H; with_reducible exact H2_) | with_reducible exact H | (rw [hy197]; exact H) | exact H); have Ny197 := Aside0.mk hy197; clear hy197; have H' := Aside0.mk H; clear H; go_wp2_with (first | ((with_reducible refine gate_callee (f := 82) rfl ?_); refine goesL_ (some 17) rfl rfl Tryd.func82 (by kernel_rfl) rfl #[.slice A0 l0.length c0, .int .i64 x6_1] rfl (by (try simp only [List.map_toArray, List.map_cons, List.map_nil]); first | done | rfl | (simp only [List.length_drop, List.length_take]; rfl)) ?_; (with_reducible refine (tremaref01_At.calls k1 _ _ l0 x6_1 t194 t195 false _ ?side1 ?side2 A4.out).mono ?_); (case side1 => repeat (first | exact (Kd.C_below HR0.out HB.out) | (with_reducible refine Kd.C_alloc ?_ _) | (with_reducible refine Kd.C_drewN ?_ _) | (with_reducible refine Kd.C_drew ?_))); (case side2 => exact HC0.out); rintro e w9 ⟨rfl, hb⟩; refine ⟨_, rfl, ?_⟩; have n0_ := Aside0.mk (Kd.R_below (by (with_reducible repeat (first | apply Kd.R_alloc | apply Kd.R_drewN | apply Kd.R_drew)); exact HO_5.out) hb); have n1_ := Aside0.mk (below_step (by repeat (first | (with_reducible first | exact HB.out | apply below_alloc | apply pw_below_drewN | apply below_drew1) | exact HB.out)) hb); clear HO_5; clear HB; have HO_5 := n0_; have HB := n1_; clear n0_ n1_; (try clear hb); (try clear hb2); (try clear hk); (try clear hi)) | ((with_reducible refine gate_builtin (b := .append) (xs := #[.tmp 26, .tmp 31]) rfl ?_); at_builtin; refine Kd.R_append k103 (w0 := w) w.heap.size rfl (.tmp 26) (.tmp 31) 74 103 (.agg #[(.int .i32 0), (.int .i64 0), (.int .i64 0)]) 24 rfl Tryd.underlying74 info103 rfl (by decide) (by omega) u5 x5_1 (⟨t194, x6_1, t195⟩ : S103) [.int .i32 t194, .int .i64 x6_1, .int .i64 t195] (fun _ => True) (fun _ => False) rfl rfl ?aP (fun _ hk => hk.elim) ?aF ?aO ?aB ?aS ?aL ?_; (case aP => exact k103_mkM _ _ _ (⟨t194, x6_1, t195⟩ : S103)); (case aB => exact (by repeat (first | (with_reducible first | exact HB.out | apply below_alloc | apply pw_below_drewN | apply below_drew1) | exact HB.out))); (case aF => exact (fun _ _ => trivial)); (case aO => exact (by (with_reducible repeat (first | apply Kd.R_alloc | apply Kd.R_drewN | apply Kd.R_drew)); exact HO_5.out)); (case aS => exact (below_size (by repeat (first | (with_reducible first | exact HB.out | apply below_alloc | apply pw_below_drewN | apply below_drew1) | exact HB.out)))); (case aL => have := LMc8.out; omega); intro v198 w10 ho hb hg hat; rw [← Ny197.out] at ho; have n0_ := Aside0.mk (hb); have n1_ := Aside0.mk (ho); clear HB; clear HO_5; have HB := n0_; have HO199 := n1_; clear n0_ n1_; clear ho hb hg hat)); go_roundg k1
       case measure => have := HK1.out; omega
       case rel => exact ⟨(y197), (wrap64 (x6_1 + t195)), (by first | rfl | (simp; done) | (simp [*]; done)), H', ⟨by have := HK1.out; omega⟩, ⟨by (with_reducible repeat (first | apply Kd.R_alloc | apply Kd.R_drewN | apply Kd.R_drew)); exact HO199.out⟩, ⟨by repeat (first | (with_reducible first | exact HB.out | apply below_alloc | apply pw_below_drewN | apply below_drew1) | exact HB.out)⟩⟩
      ·rw [if_neg c8] at H; exact absurd H (by simp)
    ·replace c5 := Bool.eq_false_iff.mpr c5; subst c5; rw [if_neg (show ¬ (false = true) by decide)] at H; by_cases c11 : x5_1.length < 5864062014805
     ·rw [if_pos c11] at H; have LMc11 := Aside0.mk c11; clear c11; obtain ⟨y200, hy200⟩ : ∃ y_ : List (S103), y_ = (x5_1 ++ [(⟨t194, x6_1, t195⟩ : S103)]) := ⟨_, rfl⟩; (replace H : (tremaref01_Decode.l0 k1 l0 false y200 (wrap64 (x6_1 + t195))) = some r := by first | (rw [hy200]; with_reducible exact H) | (have H2_ := (Option.bind_some _ _).symm.trans H; rw [hy200]; with_reducible exact H2_) | (have H2_ := (Option.bind_some _ _).symm.trans H; with_reducible exact H2_) | with_reducible exact H | (rw [hy200]; exact H) | exact H); have Ny200 := Aside0.mk hy200; clear hy200; have H' := Aside0.mk H; clear H; go_wp2_with (first | ((with_reducible refine gate_callee (f := 82) rfl ?_); refine goesL_ (some 17) rfl rfl Tryd.func82 (by kernel_rfl) rfl #[.slice A0 l0.length c0, .int .i64 x6_1] rfl (by (try simp only [List.map_toArray, List.map_cons, List.map_nil]); first | done | rfl | (simp only [List.length_drop, List.length_take]; rfl)) ?_; (with_reducible refine (tremaref01_At.calls k1 _ _ l0 x6_1 t194 t195 t196 _ ?side1 ?side2 A4.out).mono ?_); (case side1 => repeat (first | exact (Kd.C_below HR0.out HB.out) | (with_reducible refine Kd.C_alloc ?_ _) | (with_reducible refine Kd.C_drewN ?_ _) | (with_reducible refine Kd.C_drew ?_))); (case side2 => exact HC0.out); rintro e w12 ⟨rfl, hb⟩; refine ⟨_, rfl, ?_⟩; have n0_ := Aside0.mk (Kd.R_below (by (with_reducible repeat (first | apply Kd.R_alloc | apply Kd.R_drewN | apply Kd.R_drew)); exact HO_5.out) hb); have n1_ := Aside0.mk (below_step (by repeat (first | (with_reducible first | exact HB.out | apply below_alloc | apply pw_below_drewN | apply below_drew1) | exact HB.out)) hb); clear HO_5; clear HB; have HO_5 := n0_; have HB := n1_; clear n0_ n1_; (try clear hb); (try clear hb2); (try clear hk); (try clear hi)) | ((with_reducible refine gate_builtin (b := .append) (xs := #[.tmp 26, .tmp 31]) rfl ?_); at_builtin; refine Kd.R_append k103 (w0 := w) w.heap.size rfl (.tmp 26) (.tmp 31) 74 103 (.agg #[(.int .i32 0), (.int .i64 0), (.int .i64 0)]) 24 rfl Tryd.underlying74 info103 rfl (by decide) (by omega) u5 x5_1 (⟨t194, x6_1, t195⟩ : S103) [.int .i32 t194, .int .i64 x6_1, .int .i64 t195] (fun _ => True) (fun _ => False) rfl rfl ?aP (fun _ hk => hk.elim) ?aF ?aO ?aB ?aS ?aL ?_; (case aP => exact k103_mkM _ _ _ (⟨t194, x6_1, t195⟩ : S103)); (case aB => exact (by repeat (first | (with_reducible first | exact HB.out | apply below_alloc | apply pw_below_drewN | apply below_drew1) | exact HB.out))); (case aF => exact (fun _ _ => trivial)); (case aO => exact (by (with_reducible repeat (first | apply Kd.R_alloc | apply Kd.R_drewN | apply Kd.R_drew)); exact HO_5.out)); (case aS => exact (below_size (by repeat (first | (with_reducible first | exact HB.out | apply below_alloc | apply pw_below_drewN | apply below_drew1) | exact HB.out)))); (case aL => have := LMc11.out; omega); intro v201 w13 ho hb hg hat; rw [← Ny200.out] at ho; have n0_ := Aside0.mk (hb); have n1_ := Aside0.mk (ho); clear HB; clear HO_5; have HB := n0_; have HO202 := n1_; clear n0_ n1_; clear ho hb hg hat)); go_roundg k1
      case measure => have := HK1.out; omega
      case rel => exact ⟨(y200), (wrap64 (x6_1 + t195)), (by first | rfl | (simp; done) | (simp [*]; done)), H', ⟨by have := HK1.out; omega⟩, ⟨by (with_reducible repeat (first | apply Kd.R_alloc | apply Kd.R_drewN | apply Kd.R_drew)); exact HO202.out⟩, ⟨by repeat (first | (with_reducible first | exact HB.out | apply below_alloc | apply pw_below_drewN | apply below_drew1) | exact HB.out)⟩⟩
     ·rw [if_neg c11] at H; exact absurd H (by simp)
   ·rw [if_neg c3] at H; have c3b0 : decide (x6_1 < (l0.length : Int)) = false := decide_eq_false c3; clear c3; obtain rfl := Option.some.inj H; go_wp2; go_ret; exact ⟨_, by first | rfl | (simp [errW_none, errW_some] <;> rfl) | (simp [*, errW_none, errW_some] <;> rfl), by (with_reducible repeat (first | apply Kd.R_alloc | apply Kd.R_drewN | apply Kd.R_drew)); exact HO_5.out, by repeat (first | (with_reducible first | exact HB.out | apply below_alloc | apply pw_below_drewN | apply below_drew1) | exact HB.out)⟩
end Go.Proofs.YthffpkdadffinaaDoor.X
namespace Go.Proofs.YthffpkdadffinaaDoor.Ux
set_option linter.unusedVariables false
set_option linter.unusedSimpArgs false
open Go.RowKit YthffpkdadffinaaDoorW.PrintWords Hp X
def bnd (c : Int) : Option (List (Int × Int)) :=
  if c < 128 then some []
  else if c < 194 ∨ 244 < c then none
  else if c < 224 then some [(128, 191)]
  else if c < 240 then some [(if c = 224 then 160 else 128, if c = 237 then 159 else 191), (128, 191)]
  else some [(if c = 240 then 144 else 128, if c = 244 then 143 else 191), (128, 191), (128, 191)]
def st (c : Int) : Int := if c < 128 then c else if c < 224 then c % 32 else if c < 240 then c % 16 else c % 8
def cont : List (Int × Int) → List Int → Int → Int → Int × Int × Bool
  | [], _, r, i => (r, i, false)
  | _ :: _, [], _, i => (65533, i, true)
  | (lo, hi) :: bs, x :: t, r, i => if x < lo ∨ hi < x then (65533, i, false) else cont bs t (r * 64 + x % 64) (i + 1)
def one1 (c : Int) (t : List Int) : Int × Int × Bool :=
  match bnd c with
  | none => (65533, 1, false)
  | some bs => cont bs t (st c) 1
def Bytes (l : List Int) : Prop := ∀ x, x ∈ l → 0 ≤ x ∧ x ≤ 255
theorem cont_width : ∀ (bs : List (Int × Int)) (t : List Int) (r i : Int), i ≤ (cont bs t r i).2.1 ∧ (cont bs t r i).2.1 ≤ i + bs.length ∧ (cont bs t r i).2.1 ≤ i + t.length
  | [], t, r, i => by simp [cont]; omega
  | b :: bs, [], r, i => by simp [cont]; omega
  | (lo, hi) :: bs, x :: t, r, i => by
    simp only [cont]; split
    · simp; omega
    · have := cont_width bs t (r * 64 + x % 64) (i + 1); simp only [List.length_cons]; omega
theorem bnd_len {c : Int} {bs : List (Int × Int)} (h : bnd c = some bs) : bs.length ≤ 3 := by
  unfold bnd at h; split at h
  · cases h; decide
  · split at h
    · cases h
    · split at h
      · cases h; simp
      · split at h
        · cases h; simp
        · cases h; simp
theorem one1_width (c : Int) (t : List Int) : 1 ≤ (one1 c t).2.1 ∧ (one1 c t).2.1 ≤ 4 ∧ (one1 c t).2.1 ≤ 1 + t.length := by
  unfold one1
  cases h : bnd c with
  | none => simp; omega
  | some bs =>
    have h1 := cont_width bs t (st c) 1; have h2 := bnd_len h; simp only; omega
theorem rd_at (l : List Int) (i : Nat) (h : i < l.length) : rd l (i : Int) = l[i] := by simp [rd, List.getD_eq_getElem?_getD, h]
theorem step_r (r x : Int) (h0 : 0 ≤ r) (hr : (r + 1) * 64 ≤ 2097152) (hx : 0 ≤ x ∧ x ≤ 255) : bits .or .i32 (wrap32 (r * 64)) (wrap32 (bits .and .u8 x 63)) = r * 64 + x % 64 := by
  (have ea : wrap32 (r * 64) = r * 64 := by unfold wrap32; omega); (have eb : wrap32 (bits .and .u8 x 63) = x % 64 := by rw [u8_and63 x hx.1 (by omega)]; unfold wrap32; omega); rw [ea, eb]; exact i32_or6 (r * 64) (x % 64) (by omega) (by omega) (by omega) (by omega) (by omega)
theorem step_p {r x : Int} {p : Nat} (h0 : 0 ≤ r) (hp : 1 ≤ p) (hr : (r + 1) * (64 * p : Nat) ≤ 2097152) : (r + 1) * 64 ≤ 2097152 ∧ (r * 64 + x % 64 + 1) * (p : Int) ≤ 2097152 := by
  (have e : ((64 * p : Nat) : Int) = 64 * (p : Int) := by push_cast; rfl); rw [e, ← Int.mul_assoc] at hr; have h1 : (r + 1) * 64 * 1 ≤ (r + 1) * 64 * (p : Int) := Int.mul_le_mul_of_nonneg_left (by omega) (by omega); have h2 : (r * 64 + x % 64 + 1) * (p : Int) ≤ (r + 1) * 64 * (p : Int) := Int.mul_le_mul_of_nonneg_right (by omega) (by omega); exact ⟨by omega, Int.le_trans h2 hr⟩
theorem loop_cont (l : List Int) (hb : Bytes l) (hl : l.length ≤ 140737488355328) : ∀ (bs : List (Int × Int)) (k i : Nat) (r lo hi : Int), (∀ b, b ∈ bs.tail → b = (128, 191)) → (∀ b, bs.head? = some b → b = (lo, hi)) → bs.length < k → 0 ≤ r → (r + 1) * (64 ^ bs.length : Nat) ≤ 2097152 → i ≤ l.length →
    utf_one.l0 k l r ((i : Int) + bs.length) lo hi i = some (cont bs (l.drop i) r i)
  | [], k, i, r, lo, hi, _, _, hk, _, _, _ => by
    obtain ⟨k, rfl⟩ : ∃ m, k = m + 1 := ⟨k - 1, by omega⟩; simp only [utf_one.l0, List.length_nil]; rw [if_neg (by omega)]; simp [cont]
  | (lo', hi') :: bs, k, i, r, lo, hi, ht, hh, hk, h0, hr, hi1 => by
    obtain ⟨k, rfl⟩ : ∃ m, k = m + 1 := ⟨k - 1, by omega⟩; have e := hh _ rfl; injection e with e1 e2; subst e1; subst e2; simp only [List.length_cons] at hk hr ⊢; simp only [utf_one.l0]; rw [if_pos (by omega)]; by_cases he : i = l.length
    · rw [if_pos (by omega), List.drop_eq_nil_of_le (by omega)]; simp [cont]
    · (have hlt : i < l.length := by omega); rw [if_neg (by omega), if_pos (by omega), if_pos (by omega), rd_at l i hlt, List.drop_eq_getElem_cons hlt]; have hx := hb l[i] (List.getElem_mem hlt); obtain ⟨x, hxe⟩ : ∃ x, x = l[i] := ⟨_, rfl⟩; rw [← hxe] at hx ⊢; simp only [cont]; by_cases h1 : x < lo'
      · rw [if_pos h1, if_pos (.inl h1)]
      · rw [if_neg h1]; by_cases h2 : x > hi'
        · rw [if_pos h2, if_pos (.inr h2)]
        · rw [if_neg h2, if_neg (by omega)]; have hp := step_p (x := x) h0 (Nat.one_le_pow bs.length 64 (by omega)) (by rw [Nat.pow_succ, Nat.mul_comm] at hr; exact hr); (have ew : wrap64 ((i : Int) + 1) = ((i + 1 : Nat) : Int) := by clear hr hp; unfold wrap64; omega); (have ei : ((i : Int) + ((bs.length + 1 : Nat) : Int)) = (((i + 1 : Nat) : Int) + (bs.length : Int)) := by clear hr hp; omega); rw [step_r r x h0 hp.1 hx, ew, ei]; (have h0' : 0 ≤ r * 64 + x % 64 := by clear hr hp; omega); have ih := loop_cont l hb hl bs k (i + 1) (r * 64 + x % 64) 128 191 (fun b hb => ht b (List.mem_of_mem_tail hb)) (fun b hb2 => ht b (List.mem_of_mem_head? hb2)) (by clear hr hp; omega) h0' hp.2 (by clear hr hp; omega); rw [ih]
          push_cast
          rfl
theorem lead_some (c : Int) (h : 0 ≤ c ∧ c ≤ 255) : ∃ lo hi, utf_lead.f 8 c = some ((match bnd c with | none => 0 | some bs => (bs.length : Int) + 1), (match bnd c with | none => 0 | some _ => st c), lo, hi) ∧ ∀ b, (bnd c).bind List.head? = some b → b = (lo, hi) := by
  unfold utf_lead.f bnd st; by_cases h1 : c < 128
  · simp only [if_pos h1]; refine ⟨128, 191, ?_, by simp⟩; (have : wrap32 c = c := by unfold wrap32; omega); simp [this]
  · simp only [if_neg h1]; by_cases h2 : c < 194
    · simp only [if_pos h2, if_pos (show c < 194 ∨ 244 < c from .inl h2), utf_lead.j0, if_true]; exact ⟨_, _, rfl, by simp⟩
    · simp only [if_neg h2]; by_cases h3 : c > 244
      · simp only [if_pos (show c < 194 ∨ 244 < c from .inr h3), decide_eq_true h3, utf_lead.j0, if_true]; exact ⟨_, _, rfl, by simp⟩
      · simp only [if_neg (show ¬ (c < 194 ∨ 244 < c) by omega), decide_eq_false h3, utf_lead.j0, Bool.false_eq_true, if_false]; (have e31 : wrap32 (bits .and .u8 c 31) = c % 32 := by rw [u8_and31 c h.1 (by omega)]; unfold wrap32; omega); (have e15 : wrap32 (bits .and .u8 c 15) = c % 16 := by rw [u8_and15 c h.1 (by omega)]; unfold wrap32; omega); (have e7 : wrap32 (bits .and .u8 c 7) = c % 8 := by rw [u8_and7 c h.1 (by omega)]; unfold wrap32; omega); rw [e31, e15, e7]; by_cases h4 : c < 224
        · simp only [if_pos h4]; exact ⟨_, _, rfl, by simp⟩
        · simp only [if_neg h4]; by_cases h5 : c < 240
          · simp only [if_pos h5]; by_cases h6 : c = 224
            · simp only [if_pos h6]; exact ⟨_, _, rfl, by subst h6; simp⟩
            · simp only [if_neg h6]; by_cases h7 : c = 237
              · simp only [if_pos h7]; exact ⟨_, _, rfl, by subst h7; simp⟩
              · simp only [if_neg h7]; exact ⟨_, _, rfl, by simp⟩
          · simp only [if_neg h5]; by_cases h6 : c = 240
            · simp only [if_pos h6]; exact ⟨_, _, rfl, by subst h6; simp⟩
            · simp only [if_neg h6]; by_cases h7 : c = 244
              · simp only [if_pos h7]; exact ⟨_, _, rfl, by subst h7; simp⟩
              · simp only [if_neg h7]; exact ⟨_, _, rfl, by simp⟩
theorem bnd_tail {c : Int} {bs : List (Int × Int)} (h : bnd c = some bs) : ∀ b, b ∈ bs.tail → b = (128, 191) := by
  unfold bnd at h; split at h
  · cases h; simp
  · split at h
    · cases h
    · split at h
      · cases h; simp
      · split at h
        · cases h; simp
        · cases h; simp
theorem st_bound {c : Int} {bs : List (Int × Int)} (hc : 0 ≤ c ∧ c ≤ 255) (h : bnd c = some bs) : 0 ≤ st c ∧ (st c + 1) * (64 ^ bs.length : Nat) ≤ 2097152 := by
  unfold bnd at h; unfold st; split at h
  · rename_i h1; cases h; rw [if_pos h1]; simp; omega
  · rename_i h1; rw [if_neg h1]; split at h
    · cases h
    · split at h
      · rename_i h2; cases h; rw [if_pos h2]; simp; omega
      · rename_i h2; rw [if_neg h2]; split at h
        · rename_i h3; cases h; rw [if_pos h3]; simp; omega
        · rename_i h3; cases h; rw [if_neg h3]; simp; omega
theorem one_pure (c : Int) (t : List Int) (hb : Bytes (c :: t)) (hl : (c :: t).length ≤ 140737488355328) : utf_one.f 8 (c :: t) = some (one1 c t) := by
  have hc := hb c List.mem_cons_self; obtain ⟨lo, hi, hlead, hhead⟩ := lead_some c hc; unfold utf_one.f; rw [if_pos (by simp), show rd (c :: t) 0 = c from rfl, hlead]; simp only [Option.bind_some, one1]
  cases h : bnd c with
  | none => simp
  | some bs =>
    simp only; rw [if_neg (by omega)]; have := loop_cont (c :: t) hb hl bs 8 1 (st c) lo hi (bnd_tail h) (fun b hb2 => hhead b (by rw [h]; exact hb2)) (by have := bnd_len h; omega) (st_bound hc h).1 (st_bound hc h).2 (by simp); rw [show (bs.length : Int) + 1 = ((1 : Nat) : Int) + bs.length by omega]
    simpa using this
end Go.Proofs.YthffpkdadffinaaDoor.Ux
namespace Go.Proofs.YthffpkdadffinaaDoor.Ux
set_option linter.unusedVariables false
set_option linter.unusedSimpArgs false
open Go.RowKit YthffpkdadffinaaDoorW.PrintWords Hp X
def flat : List (Int × Int) → List Int
  | [] => []
  | (a, b) :: l => a :: b :: flat l
theorem flat_len : ∀ bs, (flat bs).length = 2 * bs.length
  | [] => rfl
  | (a, b) :: l => by simp [flat, flat_len l]; omega
theorem flat_get : ∀ (bs : List (Int × Int)) (j : Nat) (h : j < bs.length), (flat bs).getD (2 * j) 0 = bs[j].1 ∧ (flat bs).getD (2 * j + 1) 0 = bs[j].2
  | (a, b) :: l, 0, _ => by simp [flat]
  | (a, b) :: l, j + 1, h => by
    have := flat_get l j (by simpa using h); rw [show 2 * (j + 1) = 2 * j + 2 by omega, show 2 * j + 2 + 1 = 2 * j + 1 + 2 by omega]
    simpa [flat, List.getD_eq_getElem?_getD] using this
theorem row_some (c : Int) (h : 0 ≤ c ∧ c ≤ 255) : tremaref01_row.f 8 c = some (match bnd c with | none => ([], false) | some bs => (flat bs, true)) := by
  unfold tremaref01_row.f bnd; by_cases h1 : c < 128
  · rw [if_pos (by omega), if_pos h1]; rfl
  · rw [if_neg (by omega), if_neg h1]; by_cases h2 : c ≥ 194
    · rw [if_pos h2]; by_cases h3 : c < 224
      · rw [if_neg (by omega), if_pos h3, decide_eq_true (show c ≤ 223 by omega)]; simp [tremaref01_row.j0, flat]
      · rw [decide_eq_false (show ¬ c ≤ 223 by omega)]; simp only [tremaref01_row.j0, Bool.false_eq_true, if_false]; by_cases h4 : c = 224
        · subst h4; rfl
        · rw [if_neg h4]; by_cases h5 : c = 237
          · subst h5; rfl
          · rw [if_neg h5, if_pos (by omega)]; by_cases h6 : c < 240
            · rw [decide_eq_true (show c ≤ 239 by omega), if_neg (by omega), if_neg h3, if_pos h6]; simp [tremaref01_row.j1, flat, h4, h5]
            · rw [decide_eq_false (show ¬ c ≤ 239 by omega)]; simp only [tremaref01_row.j1, Bool.false_eq_true, if_false]; by_cases h7 : c = 240
              · subst h7; rfl
              · rw [if_neg h7, if_pos (by omega)]; by_cases h8 : c ≤ 243
                · rw [decide_eq_true h8, if_neg (by omega), if_neg h3, if_neg h6]; simp [tremaref01_row.j2, flat, h7, show ¬ c = 244 by omega]
                · rw [decide_eq_false h8]; simp only [tremaref01_row.j2, Bool.false_eq_true, if_false]; by_cases h9 : c = 244
                  · subst h9; rfl
                  · rw [if_neg h9, if_pos (by omega)]
    · rw [if_neg h2, if_pos (by omega)]; simp only [tremaref01_row.j0, Bool.false_eq_true, if_false]; rw [if_neg (by omega), if_neg (by omega), if_neg (by omega)]; simp only [tremaref01_row.j1, Bool.false_eq_true, if_false]; rw [if_neg (by omega), if_neg (by omega)]; simp only [tremaref01_row.j2, Bool.false_eq_true, if_false]; rw [if_neg (by omega)]
def mt : List (Int × Int) → List Int → Nat
  | [], _ => 0
  | _ :: _, [] => 0
  | (lo, hi) :: bs, x :: t => if x < lo ∨ hi < x then 0 else mt bs t + 1
def fold (r : Int) (l : List Int) : Int := l.foldl (fun r x => r * 64 + x % 64) r
theorem mt_le : ∀ (bs : List (Int × Int)) (t : List Int), mt bs t ≤ bs.length ∧ mt bs t ≤ t.length
  | [], t => by simp [mt]
  | _ :: _, [] => by simp [mt]
  | (lo, hi) :: bs, x :: t => by
    have := mt_le bs t; simp only [mt]; split <;> simp <;> omega
theorem cont_mt : ∀ (bs : List (Int × Int)) (t : List Int) (r i : Int), cont bs t r i = if mt bs t = bs.length then (fold r (t.take bs.length), i + bs.length, false) else (65533, i + mt bs t, decide (mt bs t = t.length))
  | [], t, r, i => by simp [cont, mt, fold]
  | b :: bs, [], r, i => by simp [cont, mt]
  | (lo, hi) :: bs, x :: t, r, i => by
    simp only [cont, mt]; split
    · simp
    · rw [cont_mt bs t]; simp only [List.length_cons, Nat.add_right_cancel_iff]; split
      · simp only [List.take_succ_cons, fold, List.foldl_cons]; congr 2
        push_cast; omega
      · congr 2
        · push_cast; omega
theorem step_r2 (r x : Int) (h0 : 0 ≤ r) (hr : (r + 1) * 64 ≤ 2097152) (hx : 0 ≤ x ∧ x ≤ 255) : wrap32 ((wrap32 (r * 64)) + (Int.tmod (wrap32 x) 64)) = r * 64 + x % 64 := by
  (have e1 : wrap32 (r * 64) = r * 64 := by unfold wrap32; omega); (have e2 : wrap32 x = x := by unfold wrap32; omega); rw [e1, e2, Int.tmod_eq_emod_of_nonneg hx.1]; unfold wrap32; omega
theorem l1_step (l : List Int) (hl : l.length ≤ 140737488355328) (at_ n j k : Nat) (r : Int) (h1 : j < n) (hlt : at_ + j < l.length) (x : Int) (hxe : x = l[at_ + j]) (hx : 0 ≤ x ∧ x ≤ 255) (h0 : 0 ≤ r) (hr : (r + 1) * 64 ≤ 2097152) :
    tremaref01_At.l1 (k + 1) l at_ (n : Int) r j = tremaref01_At.l1 k l at_ (n : Int) (r * 64 + x % 64) ((j + 1 : Nat) : Int) := by
  (have ea : wrap64 ((at_ : Int) + j) = ((at_ + j : Nat) : Int) := by unfold wrap64; omega); (have ew : wrap64 ((j : Int) + 1) = ((j + 1 : Nat) : Int) := by unfold wrap64; omega); simp only [tremaref01_At.l1]; rw [if_pos (by omega), ea, if_pos (by omega), if_pos (by omega), rd_at l _ hlt, ew, ← hxe, step_r2 r x h0 hr hx]
theorem fold_cons (r x : Int) (t : List Int) : fold r (x :: t) = fold (r * 64 + x % 64) t := rfl
theorem l1_pure (l : List Int) (hb : Bytes l) (hl : l.length ≤ 140737488355328) (at_ : Nat) (n : Nat) (hn : n ≤ 8) (han : at_ + n ≤ l.length) : ∀ (d j k : Nat) (r : Int), n - j = d → j ≤ n → d < k → 0 ≤ r → (r + 1) * (64 ^ d : Nat) ≤ 2097152 →
    tremaref01_At.l1 k l at_ (n : Int) r j = some (fold r ((l.drop (at_ + j)).take d), (n : Int), false) := by
  intro d
  induction d with
  | zero =>
    intro j k r hd hj hk _ _; obtain ⟨k, rfl⟩ : ∃ m, k = m + 1 := ⟨k - 1, by omega⟩; simp only [tremaref01_At.l1]; rw [if_neg (by omega)]; simp [fold]
  | succ d ih =>
    intro j k r hd hj hk h0 hr; obtain ⟨k, rfl⟩ : ∃ m, k = m + 1 := ⟨k - 1, by clear hr; omega⟩; (have hlt : at_ + j < l.length := by clear hr; omega); have hx := hb l[at_ + j] (List.getElem_mem hlt); have hp := step_p (x := l[at_ + j]) h0 (Nat.one_le_pow d 64 (by decide)) (by rw [Nat.pow_succ, Nat.mul_comm] at hr; exact hr); clear hr; (have h5 : 0 ≤ r * 64 + l[at_ + j] % 64 := by clear hp ih; omega); rw [l1_step l hl at_ n j k r (by clear hp ih; omega) hlt _ rfl hx h0 hp.1, ih (j + 1) k _ (by clear hp ih; omega) (by clear hp ih; omega) (by clear hp ih; omega) h5 hp.2, List.drop_eq_getElem_cons hlt, List.take_succ_cons, fold_cons]
    rfl
def fin (l : List Int) (at_ : Nat) (c : Int) (bs : List (Int × Int)) (m : Nat) : Int × Int × Bool :=
  if m < bs.length then (65533, 1 + (m : Int), decide (at_ + 1 + m = l.length)) else (fold (st c) ((l.drop (at_ + 1)).take m), 1 + (m : Int), false)
theorem j1_pure (l : List Int) (hb : Bytes l) (hl : l.length ≤ 140737488355328) (at_ : Nat) (hat : at_ < l.length) (bs : List (Int × Int)) (hbs : bnd l[at_] = some bs) (m k : Nat) (hm : m ≤ bs.length) (hm2 : at_ + 1 + m ≤ l.length) (hk : m + 3 < k) :
    tremaref01_At.j1 k l at_ (flat bs) (1 + (m : Int)) = some (fin l at_ l[at_] bs m) := by
  obtain ⟨k, rfl⟩ : ∃ q, k = q + 1 := ⟨k - 1, by omega⟩; have hc := hb l[at_] (List.getElem_mem hat); have hs := st_bound hc hbs; have h3 := bnd_len hbs; (have ef : wrap64 (((flat bs).length : Int) / 2) = bs.length := by rw [flat_len]; unfold wrap64; omega); simp only [tremaref01_At.j1]; rw [ef]; unfold fin; by_cases h1 : m < bs.length
  · rw [if_pos (by omega), if_pos h1]; (have ea : wrap64 ((at_ : Int) + (1 + m)) = ((at_ + 1 + m : Nat) : Int) := by unfold wrap64; omega); rw [ea]; congr 3; rw [Bool.eq_iff_iff]; simp only [beq_iff_eq, decide_eq_true_eq]; omega
  · (obtain rfl : m = bs.length := by omega); rw [if_neg (by omega), if_neg h1]; (have hw : wrap32 l[at_] = l[at_] := by clear hs; unfold wrap32; omega); by_cases h0 : bs.length = 0
    · rw [if_pos (by omega), if_pos (by omega), if_pos (by omega), rd_at l at_ hat, hw, h0]
      have : st l[at_] = l[at_] := by
        unfold bnd at hbs; unfold st; split at hbs
        · rename_i h; rw [if_pos h]
        · split at hbs
          · cases hbs
          · split at hbs
            · cases hbs; simp at h0
            · split at hbs
              · cases hbs; simp at h0
              · cases hbs; simp at h0
      simp [fold, this]
    · rw [if_neg (by omega), if_pos (by omega), if_pos (by omega)]; (have e7 : wrap64 (7 - (1 + (bs.length : Int))) = 6 - bs.length := by clear hs; unfold wrap64; omega); rw [e7, if_pos (by omega), rd_at l at_ hat, hw]
      have hsh : (shl .i32 1 (6 - (bs.length : Int))) ≠ 0 ∧ Int.tmod l[at_] (shl .i32 1 (6 - (bs.length : Int))) = st l[at_] := by
        unfold bnd at hbs; unfold st; split at hbs
        · cases hbs; simp at h0
        · rename_i g1; rw [if_neg g1]; split at hbs
          · cases hbs
          · split at hbs
            · rename_i g3; cases hbs; rw [if_pos g3]; exact ⟨by decide, by rw [show shl .i32 1 (6 - (([(128, 191)] : List (Int × Int)).length : Int)) = 32 by decide, Int.tmod_eq_emod_of_nonneg hc.1]⟩
            · rename_i g3; rw [if_neg g3]; split at hbs
              · rename_i g4; cases hbs; rw [if_pos g4]; simp only [List.length_cons, List.length_nil]; exact ⟨by decide, by rw [show shl .i32 1 (6 - ((0 + 1 + 1 : Nat) : Int)) = 16 by decide, Int.tmod_eq_emod_of_nonneg hc.1]⟩
              · rename_i g4; cases hbs; rw [if_neg g4]; simp only [List.length_cons, List.length_nil]; exact ⟨by decide, by rw [show shl .i32 1 (6 - ((0 + 1 + 1 + 1 : Nat) : Int)) = 8 by decide, Int.tmod_eq_emod_of_nonneg hc.1]⟩
      rw [if_neg hsh.1, hsh.2]; have := l1_pure l hb hl at_ (1 + bs.length) (by clear hs; omega) (by clear hs; omega) bs.length 1 k (st l[at_]) (by clear hs; omega) (by clear hs; omega) (by clear hs; omega) hs.1 hs.2; rw [show ((1 : Int) + (bs.length : Int)) = ((1 + bs.length : Nat) : Int) by push_cast; rfl]; exact this
theorem ef_len {bs : List (Int × Int)} (h3 : bs.length ≤ 3) : wrap64 (((flat bs).length : Int) / 2) = bs.length := by
  rw [flat_len]; unfold wrap64; omega
theorem rd_flat {bs : List (Int × Int)} {j : Nat} (hj : j < bs.length) : rd (flat bs) ((2 * j : Nat) : Int) = bs[j].1 ∧ rd (flat bs) ((2 * j + 1 : Nat) : Int) = bs[j].2 := by
  have hg := flat_get bs j hj; simp only [rd, Int.toNat_natCast]; exact hg
theorem l0_stop (l : List Int) (at_ k : Nat) (bs : List (Int × Int)) (h3 : bs.length ≤ 3) : tremaref01_At.l0 (k + 1) l at_ (flat bs) (1 + (bs.length : Int)) = tremaref01_At.j1 k l at_ (flat bs) (1 + (bs.length : Int)) := by
  simp only [tremaref01_At.l0]; rw [ef_len h3, if_neg (by omega)]
theorem l0_end (l : List Int) (hl : l.length ≤ 140737488355328) (at_ k j : Nat) (bs : List (Int × Int)) (h3 : bs.length ≤ 3) (hj : j < bs.length) (he : at_ + 1 + j = l.length) : tremaref01_At.l0 (k + 1) l at_ (flat bs) (1 + (j : Int)) = tremaref01_At.j1 k l at_ (flat bs) (1 + (j : Int)) := by
  (have ea : wrap64 ((at_ : Int) + (1 + j)) = ((at_ + 1 + j : Nat) : Int) := by unfold wrap64; omega); simp only [tremaref01_At.l0]; rw [ef_len h3, if_pos (by omega), ea, if_neg (by omega)]
theorem l0_step (l : List Int) (hl : l.length ≤ 140737488355328) (at_ k j : Nat) (bs : List (Int × Int)) (h3 : bs.length ≤ 3) (hj : j < bs.length) (he : at_ + 1 + j < l.length) :
    tremaref01_At.l0 (k + 1) l at_ (flat bs) (1 + (j : Int)) = if l[at_ + 1 + j] < bs[j].1 ∨ bs[j].2 < l[at_ + 1 + j] then tremaref01_At.j1 k l at_ (flat bs) (1 + (j : Int)) else tremaref01_At.l0 k l at_ (flat bs) (1 + ((j + 1 : Nat) : Int)) := by
  (have ea : wrap64 ((at_ : Int) + (1 + j)) = ((at_ + 1 + j : Nat) : Int) := by unfold wrap64; omega); (have e2 : wrap64 ((wrap64 (2 * (1 + (j : Int)))) - 2) = ((2 * j : Nat) : Int) := by unfold wrap64; omega); (have e3 : wrap64 ((wrap64 (2 * (1 + (j : Int)))) - 1) = ((2 * j + 1 : Nat) : Int) := by unfold wrap64; omega); (have ew : wrap64 ((1 + (j : Int)) + 1) = 1 + ((j + 1 : Nat) : Int) := by unfold wrap64; omega); have hf := flat_len bs; simp only [tremaref01_At.l0]; rw [ef_len h3, if_pos (by omega), ea, e2, e3, ew, if_pos (by omega), if_pos (by omega), if_pos (by omega), if_pos (by omega), rd_at l _ he, (rd_flat hj).1, (rd_flat hj).2]; by_cases h1 : l[at_ + 1 + j] ≥ bs[j].1
  · rw [if_pos h1, if_pos (by omega), if_pos (by omega)]; by_cases h2 : l[at_ + 1 + j] ≤ bs[j].2
    · rw [if_pos h2, if_neg (by omega)]
    · rw [if_neg h2, if_pos (by omega)]
  · rw [if_neg h1, if_pos (by omega)]
theorem l0_pure (l : List Int) (hb : Bytes l) (hl : l.length ≤ 140737488355328) (at_ : Nat) (hat : at_ < l.length) (bs : List (Int × Int)) (hbs : bnd l[at_] = some bs) : ∀ (d j k : Nat), bs.length - j = d → j ≤ bs.length → at_ + 1 + j ≤ l.length → bs.length + d + 6 < k →
    tremaref01_At.l0 k l at_ (flat bs) (1 + (j : Int)) = some (fin l at_ l[at_] bs (j + mt (bs.drop j) (l.drop (at_ + 1 + j)))) := by
  have h3 := bnd_len hbs; intro d
  induction d with
  | zero =>
    intro j k hd hj hj2 hk; obtain ⟨k, rfl⟩ : ∃ q, k = q + 1 := ⟨k - 1, by omega⟩; (obtain rfl : j = bs.length := by omega); rw [l0_stop l at_ k bs h3, j1_pure l hb hl at_ hat bs hbs bs.length k (Nat.le_refl _) hj2 (by omega), List.drop_length]
    rfl
  | succ d ih =>
    intro j k hd hj hj2 hk; obtain ⟨k, rfl⟩ : ∃ q, k = q + 1 := ⟨k - 1, by omega⟩; (have hjl : j < bs.length := by omega); have hj1 := j1_pure l hb hl at_ hat bs hbs j k hj hj2 (by omega); by_cases he : at_ + 1 + j < l.length
    · have em : mt (bs.drop j) (l.drop (at_ + 1 + j)) = if l[at_ + 1 + j] < bs[j].1 ∨ bs[j].2 < l[at_ + 1 + j] then 0 else mt (bs.drop (j + 1)) (l.drop (at_ + 1 + (j + 1))) + 1 := by
        rw [List.drop_eq_getElem_cons hjl, List.drop_eq_getElem_cons he]
        rfl
      rw [l0_step l hl at_ k j bs h3 hjl he, em]; by_cases hc : l[at_ + 1 + j] < bs[j].1 ∨ bs[j].2 < l[at_ + 1 + j]
      · rw [if_pos hc, if_pos hc, hj1]
        rfl
      · rw [if_neg hc, if_neg hc, ih (j + 1) k (by omega) (by omega) (by omega) (by omega)]; rw [show j + 1 + mt (bs.drop (j + 1)) (l.drop (at_ + 1 + (j + 1))) = j + (mt (bs.drop (j + 1)) (l.drop (at_ + 1 + (j + 1))) + 1) from by omega]
    · rw [l0_end l hl at_ k j bs h3 hjl (by omega), hj1, List.drop_eq_nil_of_le (i := at_ + 1 + j) (by omega), List.drop_eq_getElem_cons hjl]
      rfl
theorem at_pure (l : List Int) (hb : Bytes l) (hl : l.length ≤ 140737488355328) (at_ : Nat) (hat : at_ < l.length) : tremaref01_At.f 20 l at_ = some (one1 l[at_] (l.drop (at_ + 1))) := by
  have hc := hb l[at_] (List.getElem_mem hat)
  have hrow : tremaref01_row.f 20 l[at_] = some (match bnd l[at_] with | none => ([], false) | some bs => (flat bs, true)) :=
    at_rounds (fun k => tremaref01_row.mono l[at_] k) (by omega) (row_some l[at_] hc)
  unfold tremaref01_At.f; rw [if_pos (by omega), if_pos (by omega), rd_at l at_ hat, hrow]; simp only [Option.bind_some, one1]
  cases h : bnd l[at_] with
  | none => simp
  | some bs =>
    have h3 := bnd_len h; have := l0_pure l hb hl at_ hat bs h bs.length 0 20 rfl (Nat.zero_le _) (by omega) (by omega); have hm := mt_le bs (l.drop (at_ + 1)); rw [Nat.zero_add, Nat.add_zero, List.drop_zero] at this; simp only [if_true]; rw [show (1 : Int) = 1 + ((0 : Nat) : Int) from rfl, this, cont_mt]; unfold fin; by_cases h4 : mt bs (l.drop (at_ + 1)) = bs.length
    · rw [if_neg (by omega), if_pos h4, h4]; rfl
    · (have hlt : mt bs (l.drop (at_ + 1)) < bs.length := by omega); rw [if_pos hlt, if_neg h4]
      have e : decide (at_ + 1 + mt bs (l.drop (at_ + 1)) = l.length) = decide (mt bs (l.drop (at_ + 1)) = (l.drop (at_ + 1)).length) := by
        rw [Bool.eq_iff_iff]; simp only [decide_eq_true_eq, List.length_drop]; omega
      rw [e]
      rfl
end Go.Proofs.YthffpkdadffinaaDoor.Ux
