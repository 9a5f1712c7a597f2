/-
  Several texts of this claim in one: what its law's proof uses.
-/
import Derived.Test.YthffpkdadffinaaDoorMWT2
import Derived.Test.YthffpkdadffinaaDoorMWT3
import Derived.WalkSpells
import Derived.WalkLawsBesides
namespace Go.Proofs.YthffpkdadffinaaDoor.X
open Go.RowKit YthffpkdadffinaaDoorW.PrintWords YthffpkdadffinaaDoorW.PrintLast YthffpkdadffinaaDoorW.PrintMore
attribute [local go_sem] max2_int min2_int max_two min_two max_three min_three max_four min_four   
set_option linter.unusedVariables false
set_option linter.unusedSimpArgs false
mutual
def tremaref01_At.j1 : Nat → List Int → Int → List Int → Int → Option (Int × Int × Bool)
 | 0, _, _, _, _ => none
 | k + 1, x0, x1, x7, x9 => if x9 ≤ (wrap64 ((x7.length : Int) / 2)) then (some (65533, x9, ((wrap64 (x1 + x9)) == (x0.length : Int)))) else (if x9 = 1 then (if 0 ≤ x1 then (if x1 < (x0.length : Int) then (some (wrap32 (rd x0 x1), 1, false)) else (none)) else (none)) else (if 0 ≤ x1 then (if x1 < (x0.length : Int) then (if 0 ≤ (wrap64 (7 - x9)) then (if (shl .i32 1 (wrap64 (7 - x9))) = 0 then (none) else (tremaref01_At.l1 k x0 x1 x9 (Int.tmod (wrap32 (rd x0 x1)) (shl .i32 1 (wrap64 (7 - x9)))) 1)) else (none)) else (none)) else (none)))
def tremaref01_At.l1 : Nat → List Int → Int → Int → Int → Int → Option (Int × Int × Bool)
 | 0, _, _, _, _, _ => none
 | k + 1, x0, x1, x9, x10, x11 => if x11 < x9 then (if 0 ≤ (wrap64 (x1 + x11)) then (if (wrap64 (x1 + x11)) < (x0.length : Int) then (tremaref01_At.l1 k x0 x1 x9 (wrap32 ((wrap32 (x10 * 64)) + (Int.tmod (wrap32 (rd x0 (wrap64 (x1 + x11)))) 64))) (wrap64 (x11 + 1))) else (none)) else (none)) else (some (x10, x9, false))
def tremaref01_At.l0 : Nat → List Int → Int → List Int → Int → Option (Int × Int × Bool)
 | 0, _, _, _, _ => none
 | k + 1, x0, x1, x7, x9 => if x9 ≤ (wrap64 ((x7.length : Int) / 2)) then (if (wrap64 (x1 + x9)) < (x0.length : Int) then (if 0 ≤ (wrap64 (x1 + x9)) then (if 0 ≤ (wrap64 ((wrap64 (2 * x9)) - 2)) then (if (wrap64 ((wrap64 (2 * x9)) - 2)) < (x7.length : Int) then (if (rd x0 (wrap64 (x1 + x9))) ≥ (rd x7 (wrap64 ((wrap64 (2 * x9)) - 2))) then (if 0 ≤ (wrap64 ((wrap64 (2 * x9)) - 1)) then (if (wrap64 ((wrap64 (2 * x9)) - 1)) < (x7.length : Int) then (if (rd x0 (wrap64 (x1 + x9))) ≤ (rd x7 (wrap64 ((wrap64 (2 * x9)) - 1))) then (tremaref01_At.l0 k x0 x1 x7 (wrap64 (x9 + 1))) else (tremaref01_At.j1 k x0 x1 x7 x9)) else (none)) else (none)) else (tremaref01_At.j1 k x0 x1 x7 x9)) else (none)) else (none)) else (none)) else (tremaref01_At.j1 k x0 x1 x7 x9)) else (tremaref01_At.j1 k x0 x1 x7 x9)
end
def tremaref01_At.f (k : Nat) (l0 : List Int) (a1 : Int) : Option (Int × Int × Bool) := if 0 ≤ a1 then (if a1 < (l0.length : Int) then ((tremaref01_row.f k (rd l0 a1)).bind fun bt162 => (if bt162.2 = true then (tremaref01_At.l0 k l0 a1 bt162.1 1) else (some (65533, 1, false)))) else (none)) else (none)
theorem tremaref01_At.mono_l : ∀ k, (∀ y0 y1 y2 y3, LeO (tremaref01_At.j1 k y0 y1 y2 y3) (tremaref01_At.j1 (k + 1) y0 y1 y2 y3)) ∧ (∀ y0 y1 y2 y3 y4, LeO (tremaref01_At.l1 k y0 y1 y2 y3 y4) (tremaref01_At.l1 (k + 1) y0 y1 y2 y3 y4)) ∧ (∀ y0 y1 y2 y3, LeO (tremaref01_At.l0 k y0 y1 y2 y3) (tremaref01_At.l0 (k + 1) y0 y1 y2 y3))
 | 0 => ⟨fun _ _ _ _ r h => by simp [tremaref01_At.j1] at h, fun _ _ _ _ _ r h => by simp [tremaref01_At.l1] at h, fun _ _ _ _ r h => by simp [tremaref01_At.l0] at h⟩
 | k + 1 => by
  obtain ⟨ih0, ih1, ih2⟩ := tremaref01_At.mono_l k; refine ⟨?_, ?_, ?_⟩
  ·intro y0 y1 y2 y3; unfold tremaref01_At.j1; repeat' first | (with_reducible exact ih0 _ _ _ _) | (with_reducible exact ih1 _ _ _ _ _) | (with_reducible exact ih2 _ _ _ _) | (with_reducible exact tremaref01_row.mono _ _) | (with_reducible exact LeO.refl _) | (with_reducible exact LeO.none _) | (with_reducible refine LeO.ite ?_ ?_) | (with_reducible refine LeO.bind ?_ (fun _ => ?_)) | exact ih0 _ _ _ _ | exact ih1 _ _ _ _ _ | exact ih2 _ _ _ _ | exact tremaref01_row.mono _ _ | exact LeO.none _ | refine LeO.ite ?_ ?_ | refine LeO.bind ?_ (fun _ => ?_)
  ·intro y0 y1 y2 y3 y4; unfold tremaref01_At.l1; repeat' first | (with_reducible exact ih0 _ _ _ _) | (with_reducible exact ih1 _ _ _ _ _) | (with_reducible exact ih2 _ _ _ _) | (with_reducible exact tremaref01_row.mono _ _) | (with_reducible exact LeO.refl _) | (with_reducible exact LeO.none _) | (with_reducible refine LeO.ite ?_ ?_) | (with_reducible refine LeO.bind ?_ (fun _ => ?_)) | exact ih0 _ _ _ _ | exact ih1 _ _ _ _ _ | exact ih2 _ _ _ _ | exact tremaref01_row.mono _ _ | exact LeO.none _ | refine LeO.ite ?_ ?_ | refine LeO.bind ?_ (fun _ => ?_)
  ·intro y0 y1 y2 y3; unfold tremaref01_At.l0; repeat' first | (with_reducible exact ih0 _ _ _ _) | (with_reducible exact ih1 _ _ _ _ _) | (with_reducible exact ih2 _ _ _ _) | (with_reducible exact tremaref01_row.mono _ _) | (with_reducible exact LeO.refl _) | (with_reducible exact LeO.none _) | (with_reducible refine LeO.ite ?_ ?_) | (with_reducible refine LeO.bind ?_ (fun _ => ?_)) | exact ih0 _ _ _ _ | exact ih1 _ _ _ _ _ | exact ih2 _ _ _ _ | exact tremaref01_row.mono _ _ | exact LeO.none _ | refine LeO.ite ?_ ?_ | refine LeO.bind ?_ (fun _ => ?_)
theorem tremaref01_At.mono : ∀ a0 a1 k, LeO (tremaref01_At.f k a0 a1) (tremaref01_At.f (k + 1) a0 a1) := by
 intro a0 a1 k; obtain ⟨ih0, ih1, ih2⟩ := tremaref01_At.mono_l k; unfold tremaref01_At.f; repeat' first | (with_reducible exact ih0 _ _ _ _) | (with_reducible exact ih1 _ _ _ _ _) | (with_reducible exact ih2 _ _ _ _) | (with_reducible exact tremaref01_row.mono _ _) | (with_reducible exact LeO.refl _) | (with_reducible exact LeO.none _) | (with_reducible refine LeO.ite ?_ ?_) | (with_reducible refine LeO.bind ?_ (fun _ => ?_)) | exact ih0 _ _ _ _ | exact ih1 _ _ _ _ _ | exact ih2 _ _ _ _ | exact tremaref01_row.mono _ _ | exact LeO.none _ | refine LeO.ite ?_ ?_ | refine LeO.bind ?_ (fun _ => ?_)
set_option maxHeartbeats 8000000 in
set_option maxRecDepth 100000 in
theorem tremaref01_At.calls (k : Nat) (A0 : Option Addr) (c0 : Nat) (l0 : List Int) (a1 : Int) (r1 : Int) (r2 : Int) (r3 : Bool) (w : World) (hr0 : Kd.C (Kd.int .u8) w A0 l0.length l0) (hc0 : l0.length ≤ c0) (h : tremaref01_At.f k l0 a1 = some (r1, r2, r3)) :
  Calls Tryd.prog 82 #[.slice A0 l0.length c0, .int .i64 a1] w fun e w' => e = .returned (.tuple #[.int .i32 r1, .int .i64 r2, .bool r3]) ∧ Below w.heap.size w w' := by
 have HR0 := Aside0.mk hr0; have HC0 := Aside0.mk hc0; clear hr0 hc0; have HB := Aside0.mk (Below.refl w.heap.size w); have H : (if 0 ≤ a1 then (if a1 < (l0.length : Int) then ((tremaref01_row.f k (rd l0 a1)).bind fun bt162 => (if bt162.2 = true then (tremaref01_At.l0 k l0 a1 bt162.1 1) else (some (65533, 1, false)))) else (none)) else (none)) = some (r1, r2, r3) := h; clear h; by_cases c3 : 0 ≤ a1
 ·rw [if_pos c3] at H; have c3b0 : decide (0 ≤ a1) = true := decide_eq_true c3; clear c3; by_cases c4 : a1 < (l0.length : Int)
  ·rw [if_pos c4] at H; have c4b0 : decide (a1 < (l0.length : Int)) = true := decide_eq_true c4; clear c4; replace H := Option.bind_eq_some_iff.mp H; obtain ⟨⟨t162, t163⟩, A50, H⟩ := H; (try dsimp only at H); have A5 := Aside0.mk A50; clear A50; by_cases c6 : t163 = true
   ·subst c6; rw [if_pos rfl] at H; have HC7 := Aside0.mk H; clear H; have p161 : 0 ≤ (a1 : Int) := of_decide_eq_true (by first | (with_reducible assumption) | assumption); have q161 : a1 < (l0.length : Int) := of_decide_eq_true (by first | (with_reducible assumption) | assumption); obtain ⟨ad161, e161, hx161_0⟩ := Kd.at_int HR0.out a1 p161 q161; cases e161; replace p161 := eq_true p161; replace q161 := eq_true q161; go_enter Tryd.func82, Tryd.ntmps82
    go_upto_block 0 with (first | (go_at_call 98; (with_reducible refine (tremaref01_row.calls k (rd l0 a1) t162 true _ A5.out).mono ?_); rintro e w8 ⟨v164, rfl, ho0, hb⟩; have n0_ := Aside0.mk (Kd.R_lower ho0 (below_size (by repeat (first | (with_reducible first | exact HB.out | apply below_alloc | apply pw_below_drewN | apply below_drew1) | exact HB.out)))); have n1_ := Aside0.mk (below_step (by repeat (first | (with_reducible first | exact HB.out | apply below_alloc | apply pw_below_drewN | apply below_drew1) | exact HB.out)) hb); clear HB; have HO165 := n0_; have HB := n1_; clear n0_ n1_; (try clear hb); (try clear hb2); (try clear hk); (try clear hi); (try clear ho0)))
    repeat (go_quiet (first | (go_at_call 98; (with_reducible refine (tremaref01_row.calls k (rd l0 a1) t162 true _ A5.out).mono ?_); rintro e w8 ⟨v164, rfl, ho0, hb⟩; have n0_ := Aside0.mk (Kd.R_lower ho0 (below_size (by repeat (first | (with_reducible first | exact HB.out | apply below_alloc | apply pw_below_drewN | apply below_drew1) | exact HB.out)))); have n1_ := Aside0.mk (below_step (by repeat (first | (with_reducible first | exact HB.out | apply below_alloc | apply pw_below_drewN | apply below_drew1) | exact HB.out)) hb); clear HB; have HO165 := n0_; have HB := n1_; clear n0_ n1_; (try clear hb); (try clear hb2); (try clear hk); (try clear hi); (try clear ho0))); go_upto_block 0 with (first | (go_at_call 98; (with_reducible refine (tremaref01_row.calls k (rd l0 a1) t162 true _ A5.out).mono ?_); rintro e w8 ⟨v164, rfl, ho0, hb⟩; have n0_ := Aside0.mk (Kd.R_lower ho0 (below_size (by repeat (first | (with_reducible first | exact HB.out | apply below_alloc | apply pw_below_drewN | apply below_drew1) | exact HB.out)))); have n1_ := Aside0.mk (below_step (by repeat (first | (with_reducible first | exact HB.out | apply below_alloc | apply pw_below_drewN | apply below_drew1) | exact HB.out)) hb); clear HB; have HO165 := n0_; have HB := n1_; clear n0_ n1_; (try clear hb); (try clear hb2); (try clear hk); (try clear hi); (try clear ho0))))
    (try simp only [Act.put, List.setIfInBounds_toArray, List.set_cons_zero, List.set_cons_succ])
    go_cut [9] (fun v9 wc => ∃ (kq : Nat) (x9_6 : Int), v9 = .int .i64 x9_6 ∧ Aside0 (tremaref01_At.j1 kq l0 a1 t162 x9_6 = some (r1, r2, r3)) ∧ Aside0 (kq ≤ k) ∧ Aside0 (Kd.R (Kd.int .u8) 5 wc w.heap.size (fun _ => True) v164 t162) ∧ Aside0 (Below w.heap.size w wc))
    case first =>
     have H := HC7.out; clear HC7; have H' := Aside0.mk H; clear H; go_wp2; (repeat (go_quiet (fail); try go_wp2)); go_loopg [9] k (fun kq v9 w' => ∃ (x9_1 : Int), v9 = .int .i64 x9_1 ∧ Aside0 (tremaref01_At.l0 kq l0 a1 t162 x9_1 = some (r1, r2, r3)) ∧ Aside0 (kq ≤ k) ∧ Aside0 (Kd.R (Kd.int .u8) 5 w' w.heap.size (fun _ => True) v164 t162) ∧ Aside0 (Below w.heap.size w w'))
     case atStart => exact ⟨(1), (by first | rfl | (simp; done) | (simp [*]; done)), H', ⟨Nat.le_refl _⟩, ⟨by (with_reducible repeat (first | apply Kd.R_alloc | apply Kd.R_drewN | apply Kd.R_drew)); exact HO165.out⟩, ⟨by repeat (first | (with_reducible first | exact HB.out | apply below_alloc | apply pw_below_drewN | apply below_drew1) | exact HB.out)⟩⟩
     case round =>
      clear H'; (try clear p1); (try clear q1); (try clear hx1); (try clear p2); (try clear c3); (try clear c3b0); (try clear c4); (try clear c4b0); (try clear c6); (try clear c8); (try clear hx161_0); (try clear p161); (try clear q161); obtain ⟨x9_1, rfl, HA, HK1, HO_7, HB⟩ := hrel
      cases gk with
      | zero => exact absurd HA.out (by simp [tremaref01_At.l0])
      | succ k1 =>
       have H := HA.out; clear HA; simp only [tremaref01_At.l0] at H; by_cases c9 : x9_1 ≤ (wrap64 ((t162.length : Int) / 2))
       ·rw [if_pos c9] at H; have c9b0 : decide (x9_1 ≤ (wrap64 ((t162.length : Int) / 2))) = true := decide_eq_true c9; clear c9
        (first | rw [c9b0] | (simp only [i64_w, i32_w]; rw [c9b0]) | skip)
        by_cases c10 : (wrap64 (a1 + x9_1)) < (l0.length : Int)
        ·rw [if_pos c10] at H; have c10b0 : decide ((wrap64 (a1 + x9_1)) < (l0.length : Int)) = true := decide_eq_true c10; clear c10; obtain ⟨ji11, hji11⟩ : ∃ j_ : Int, (wrap64 (a1 + x9_1)) = j_ := ⟨_, rfl⟩; replace H : (if 0 ≤ (ji11) then (if 0 ≤ (wrap64 ((wrap64 (2 * x9_1)) - 2)) then (if (wrap64 ((wrap64 (2 * x9_1)) - 2)) < (t162.length : Int) then (if (rd l0 (ji11)) ≥ (rd t162 (wrap64 ((wrap64 (2 * x9_1)) - 2))) then (if 0 ≤ (wrap64 ((wrap64 (2 * x9_1)) - 1)) then (if (wrap64 ((wrap64 (2 * x9_1)) - 1)) < (t162.length : Int) then (if (rd l0 (ji11)) ≤ (rd t162 (wrap64 ((wrap64 (2 * x9_1)) - 1))) then (tremaref01_At.l0 k1 l0 a1 t162 (wrap64 (x9_1 + 1))) else (tremaref01_At.j1 k1 l0 a1 t162 x9_1)) else (none)) else (none)) else (tremaref01_At.j1 k1 l0 a1 t162 x9_1)) else (none)) else (none)) else (none)) = some (r1, r2, r3) := by first | (rw [hji11] at H; exact H) | (simp only [hji11] at H ⊢; exact H)
         (try rw [hji11] at c10b0)
         have hji11w : (IntKind.i64.wrap (a1 + x9_1)) = ji11 := (i64_w _).trans hji11; by_cases c12 : 0 ≤ (ji11)
         ·rw [if_pos c12] at H; have c12b0 : decide (0 ≤ (ji11)) = true := decide_eq_true c12; clear c12; obtain ⟨ji13, hji13⟩ : ∃ j_ : Int, (wrap64 ((wrap64 (2 * x9_1)) - 2)) = j_ := ⟨_, rfl⟩; (replace H : (if 0 ≤ (ji13) then (if (ji13) < (t162.length : Int) then (if (rd l0 (ji11)) ≥ (rd t162 (ji13)) then (if 0 ≤ (wrap64 ((wrap64 (2 * x9_1)) - 1)) then (if (wrap64 ((wrap64 (2 * x9_1)) - 1)) < (t162.length : Int) then (if (rd l0 (ji11)) ≤ (rd t162 (wrap64 ((wrap64 (2 * x9_1)) - 1))) then (tremaref01_At.l0 k1 l0 a1 t162 (wrap64 (x9_1 + 1))) else (tremaref01_At.j1 k1 l0 a1 t162 x9_1)) else (none)) else (none)) else (tremaref01_At.j1 k1 l0 a1 t162 x9_1)) else (none)) else (none)) = some (r1, r2, r3) := by first | (rw [hji13] at H; exact H) | (simp only [hji13] at H ⊢; exact H)); have hji13w : (IntKind.i64.wrap ((wrap64 (2 * x9_1)) - 2)) = ji13 := (i64_w _).trans hji13; by_cases c14 : 0 ≤ (ji13)
          ·rw [if_pos c14] at H; have c14b0 : decide (0 ≤ (ji13)) = true := decide_eq_true c14; clear c14; by_cases c15 : (ji13) < (t162.length : Int)
           ·rw [if_pos c15] at H; have c15b0 : decide ((ji13) < (t162.length : Int)) = true := decide_eq_true c15; clear c15; by_cases c16 : (rd l0 (ji11)) ≥ (rd t162 (ji13))
            ·rw [if_pos c16] at H; have c16b0 : decide ((rd t162 (ji13)) ≤ (rd l0 (ji11))) = true := decide_eq_true c16; clear c16; obtain ⟨ji17, hji17⟩ : ∃ j_ : Int, (wrap64 ((wrap64 (2 * x9_1)) - 1)) = j_ := ⟨_, rfl⟩; (replace H : (if 0 ≤ (ji17) then (if (ji17) < (t162.length : Int) then (if (rd l0 (ji11)) ≤ (rd t162 (ji17)) then (tremaref01_At.l0 k1 l0 a1 t162 (wrap64 (x9_1 + 1))) else (tremaref01_At.j1 k1 l0 a1 t162 x9_1)) else (none)) else (none)) = some (r1, r2, r3) := by first | (rw [hji17] at H; exact H) | (simp only [hji17] at H ⊢; exact H)); have hji17w : (IntKind.i64.wrap ((wrap64 (2 * x9_1)) - 1)) = ji17 := (i64_w _).trans hji17; by_cases c18 : 0 ≤ (ji17)
             ·rw [if_pos c18] at H; have c18b0 : decide (0 ≤ (ji17)) = true := decide_eq_true c18; clear c18; by_cases c19 : (ji17) < (t162.length : Int)
              ·rw [if_pos c19] at H; have c19b0 : decide ((ji17) < (t162.length : Int)) = true := decide_eq_true c19; clear c19; by_cases c20 : (rd l0 (ji11)) ≤ (rd t162 (ji17))
               ·rw [if_pos c20] at H; have c20b0 : decide ((rd l0 (ji11)) ≤ (rd t162 (ji17))) = true := decide_eq_true c20; clear c20; have H' := Aside0.mk H; clear H; obtain ⟨Ao21, co21, eo21⟩ := Kd.R_slice HO_7.out; subst eo21; have p166 : 0 ≤ ((ji11) : Int) := of_decide_eq_true (by first | (with_reducible assumption) | assumption); have q166 : (ji11) < (l0.length : Int) := of_decide_eq_true (by first | (with_reducible assumption) | assumption); obtain ⟨ad166, e166, hx166_0⟩ := Kd.at_int HR0.out (ji11) p166 q166; obtain rfl : ad161 = ad166 := (by injection e166); replace hx166_0 := (HB.out.cell (World.block_lt_of_cell? w _ hx166_0)).trans hx166_0; replace p166 := eq_true p166; replace q166 := eq_true q166; have p167 : 0 ≤ ((ji13) : Int) := of_decide_eq_true (by first | (with_reducible assumption) | assumption); have q167 : (ji13) < (t162.length : Int) := of_decide_eq_true (by first | (with_reducible assumption) | assumption); obtain ⟨ad167, e167, hx167_0⟩ := Kd.at_int (Kd.R_reads' HO_7.out).2.2 (ji13) p167 q167; cases e167; replace p167 := eq_true p167; replace q167 := eq_true q167; have p168 : 0 ≤ ((ji11) : Int) := of_decide_eq_true (by first | (with_reducible assumption) | assumption); have q168 : (ji11) < (l0.length : Int) := of_decide_eq_true (by first | (with_reducible assumption) | assumption); obtain ⟨ad168, e168, hx168_0⟩ := Kd.at_int HR0.out (ji11) p168 q168; obtain rfl : ad161 = ad168 := (by injection e168); replace hx168_0 := (HB.out.cell (World.block_lt_of_cell? w _ hx168_0)).trans hx168_0; replace p168 := eq_true p168; replace q168 := eq_true q168; have p169 : 0 ≤ ((ji17) : Int) := of_decide_eq_true (by first | (with_reducible assumption) | assumption); have q169 : (ji17) < (t162.length : Int) := of_decide_eq_true (by first | (with_reducible assumption) | assumption); obtain ⟨ad169, e169, hx169_0⟩ := Kd.at_int (Kd.R_reads' HO_7.out).2.2 (ji17) p169 q169; obtain rfl : ad167 = ad169 := (by injection e169); replace p169 := eq_true p169; replace q169 := eq_true q169; go_wp2; (repeat (go_quiet (fail); try go_wp2)); go_roundg k1
                case measure => have := HK1.out; omega
                case rel => exact ⟨(wrap64 (x9_1 + 1)), (by first | rfl | (simp; done) | (simp [*]; done)), H', ⟨by have := HK1.out; omega⟩, ⟨by (with_reducible repeat (first | apply Kd.R_alloc | apply Kd.R_drewN | apply Kd.R_drew)); exact HO_7.out⟩, ⟨by repeat (first | (with_reducible first | exact HB.out | apply below_alloc | apply pw_below_drewN | apply below_drew1) | exact HB.out)⟩⟩
               ·rw [if_neg c20] at H; have c20b0 : decide ((rd l0 (ji11)) ≤ (rd t162 (ji17))) = false := decide_eq_false c20; clear c20; have H' := Aside0.mk H; clear H; obtain ⟨Ao22, co22, eo22⟩ := Kd.R_slice HO_7.out; subst eo22; have p166 : 0 ≤ ((ji11) : Int) := of_decide_eq_true (by first | (with_reducible assumption) | assumption); have q166 : (ji11) < (l0.length : Int) := of_decide_eq_true (by first | (with_reducible assumption) | assumption); obtain ⟨ad166, e166, hx166_0⟩ := Kd.at_int HR0.out (ji11) p166 q166; obtain rfl : ad161 = ad166 := (by injection e166); replace hx166_0 := (HB.out.cell (World.block_lt_of_cell? w _ hx166_0)).trans hx166_0; replace p166 := eq_true p166; replace q166 := eq_true q166; have p167 : 0 ≤ ((ji13) : Int) := of_decide_eq_true (by first | (with_reducible assumption) | assumption); have q167 : (ji13) < (t162.length : Int) := of_decide_eq_true (by first | (with_reducible assumption) | assumption); obtain ⟨ad167, e167, hx167_0⟩ := Kd.at_int (Kd.R_reads' HO_7.out).2.2 (ji13) p167 q167; cases e167; replace p167 := eq_true p167; replace q167 := eq_true q167; have p168 : 0 ≤ ((ji11) : Int) := of_decide_eq_true (by first | (with_reducible assumption) | assumption); have q168 : (ji11) < (l0.length : Int) := of_decide_eq_true (by first | (with_reducible assumption) | assumption); obtain ⟨ad168, e168, hx168_0⟩ := Kd.at_int HR0.out (ji11) p168 q168; obtain rfl : ad161 = ad168 := (by injection e168); replace hx168_0 := (HB.out.cell (World.block_lt_of_cell? w _ hx168_0)).trans hx168_0; replace p168 := eq_true p168; replace q168 := eq_true q168; have p169 : 0 ≤ ((ji17) : Int) := of_decide_eq_true (by first | (with_reducible assumption) | assumption); have q169 : (ji17) < (t162.length : Int) := of_decide_eq_true (by first | (with_reducible assumption) | assumption); obtain ⟨ad169, e169, hx169_0⟩ := Kd.at_int (Kd.R_reads' HO_7.out).2.2 (ji17) p169 q169; obtain rfl : ad167 = ad169 := (by injection e169); replace p169 := eq_true p169; replace q169 := eq_true q169; go_wp2; (repeat (go_quiet (fail); try go_wp2)); go_meet
                case rel => exact ⟨_, (x9_1), (by first | rfl | (simp; done) | (simp [*]; done)), H', ⟨by have := HK1.out; first | omega | exact Nat.le_refl _⟩, ⟨by (with_reducible repeat (first | apply Kd.R_alloc | apply Kd.R_drewN | apply Kd.R_drew)); exact HO_7.out⟩, ⟨by repeat (first | (with_reducible first | exact HB.out | apply below_alloc | apply pw_below_drewN | apply below_drew1) | exact HB.out)⟩⟩
              ·rw [if_neg c19] at H; exact absurd H (by simp)
             ·rw [if_neg c18] at H; exact absurd H (by simp)
            ·rw [if_neg c16] at H; have c16b0 : decide ((rd t162 (ji13)) ≤ (rd l0 (ji11))) = false := decide_eq_false c16; clear c16; have H' := Aside0.mk H; clear H; obtain ⟨Ao23, co23, eo23⟩ := Kd.R_slice HO_7.out; subst eo23; have p166 : 0 ≤ ((ji11) : Int) := of_decide_eq_true (by first | (with_reducible assumption) | assumption); have q166 : (ji11) < (l0.length : Int) := of_decide_eq_true (by first | (with_reducible assumption) | assumption); obtain ⟨ad166, e166, hx166_0⟩ := Kd.at_int HR0.out (ji11) p166 q166; obtain rfl : ad161 = ad166 := (by injection e166); replace hx166_0 := (HB.out.cell (World.block_lt_of_cell? w _ hx166_0)).trans hx166_0; replace p166 := eq_true p166; replace q166 := eq_true q166; have p167 : 0 ≤ ((ji13) : Int) := of_decide_eq_true (by first | (with_reducible assumption) | assumption); have q167 : (ji13) < (t162.length : Int) := of_decide_eq_true (by first | (with_reducible assumption) | assumption); obtain ⟨ad167, e167, hx167_0⟩ := Kd.at_int (Kd.R_reads' HO_7.out).2.2 (ji13) p167 q167; cases e167; replace p167 := eq_true p167; replace q167 := eq_true q167; go_wp2; (repeat (go_quiet (fail); try go_wp2)); go_meet
             case rel => exact ⟨_, (x9_1), (by first | rfl | (simp; done) | (simp [*]; done)), H', ⟨by have := HK1.out; first | omega | exact Nat.le_refl _⟩, ⟨by (with_reducible repeat (first | apply Kd.R_alloc | apply Kd.R_drewN | apply Kd.R_drew)); exact HO_7.out⟩, ⟨by repeat (first | (with_reducible first | exact HB.out | apply below_alloc | apply pw_below_drewN | apply below_drew1) | exact HB.out)⟩⟩
           ·rw [if_neg c15] at H; exact absurd H (by simp)
          ·rw [if_neg c14] at H; exact absurd H (by simp)
         ·rw [if_neg c12] at H; exact absurd H (by simp)
        ·rw [if_neg c10] at H; have c10b0 : decide ((wrap64 (a1 + x9_1)) < (l0.length : Int)) = false := decide_eq_false c10; clear c10; have H' := Aside0.mk H; clear H; obtain ⟨Ao24, co24, eo24⟩ := Kd.R_slice HO_7.out; subst eo24; go_wp2; (repeat (go_quiet (fail); try go_wp2)); go_meet
         case rel => exact ⟨_, (x9_1), (by first | rfl | (simp; done) | (simp [*]; done)), H', ⟨by have := HK1.out; first | omega | exact Nat.le_refl _⟩, ⟨by (with_reducible repeat (first | apply Kd.R_alloc | apply Kd.R_drewN | apply Kd.R_drew)); exact HO_7.out⟩, ⟨by repeat (first | (with_reducible first | exact HB.out | apply below_alloc | apply pw_below_drewN | apply below_drew1) | exact HB.out)⟩⟩
       ·rw [if_neg c9] at H; have c9b0 : decide (x9_1 ≤ (wrap64 ((t162.length : Int) / 2))) = false := decide_eq_false c9; clear c9
        (first | rw [c9b0] | (simp only [i64_w, i32_w]; rw [c9b0]) | skip)
        have H' := Aside0.mk H; clear H; obtain ⟨Ao25, co25, eo25⟩ := Kd.R_slice HO_7.out; subst eo25; go_wp2; (repeat (go_quiet (fail); try go_wp2)); go_meet
        case rel => exact ⟨_, (x9_1), (by first | rfl | (simp; done) | (simp [*]; done)), H', ⟨by have := HK1.out; first | omega | exact Nat.le_refl _⟩, ⟨by (with_reducible repeat (first | apply Kd.R_alloc | apply Kd.R_drewN | apply Kd.R_drew)); exact HO_7.out⟩, ⟨by repeat (first | (with_reducible first | exact HB.out | apply below_alloc | apply pw_below_drewN | apply below_drew1) | exact HB.out)⟩⟩
    case rest =>
     clear HC7; (try clear c1); (try clear p1); (try clear q1); (try clear hx1); (try clear c2); (try clear p2); (try clear c3); (try clear c3b0); (try clear c4); (try clear c4b0); (try clear c6); (try clear p6); (try clear c8); (try clear c9); (try clear c9b0); (try clear c10); (try clear c10b0); (try clear c12); (try clear c12b0); (try clear c14); (try clear c14b0); (try clear c15); (try clear c15b0); (try clear c16); (try clear c16b0); (try clear p16); (try clear q16); (try clear hx16); (try clear c18); (try clear c18b0); (try clear c19); (try clear c19b0); (try clear c20); (try clear c20b0); (try clear hx161_0); (try clear hx166_0); (try clear hx167_0); (try clear hx168_0); (try clear hx169_0); (try clear p1); (try clear p161); (try clear p166); (try clear p167); (try clear p168); (try clear p169); (try clear p2); (try clear q1); (try clear q161); (try clear q166); (try clear q167); (try clear q168); (try clear q169); obtain ⟨kq, x9_6, rfl, HA, HJ6, HO_7, HB⟩ := hcut
     cases kq with
     | zero => exact absurd HA.out (by simp [tremaref01_At.j1])
     | succ kj6 =>
      have H := HA.out; clear HA; simp only [tremaref01_At.j1] at H; by_cases c26 : x9_6 ≤ (wrap64 ((t162.length : Int) / 2))
      ·rw [if_pos c26] at H; have c26b0 : decide (x9_6 ≤ (wrap64 ((t162.length : Int) / 2))) = true := decide_eq_true c26; clear c26; simp only [Option.some.injEq, Prod.mk.injEq] at H; obtain ⟨rfl, rfl, rfl⟩ := H; obtain ⟨Ao27, co27, eo27⟩ := Kd.R_slice HO_7.out; subst eo27; go_wp2; (repeat (go_quiet (fail); try go_wp2)); go_ret3; exact ⟨by first | rfl | (simp [errW_none, errW_some] <;> rfl) | (simp [*, errW_none, errW_some] <;> rfl), by repeat (first | (with_reducible first | exact HB.out | apply below_alloc | apply pw_below_drewN | apply below_drew1) | exact HB.out)⟩
      ·rw [if_neg c26] at H; have c26b0 : decide (x9_6 ≤ (wrap64 ((t162.length : Int) / 2))) = false := decide_eq_false c26; clear c26; by_cases c28 : x9_6 = 1
       ·rw [if_pos c28] at H; have c28b0 : (x9_6 == 1) = true := beq_iff_eq.mpr c28; have c28b1 : (x9_6 != 1) = false := bne_eq_false_iff_eq.mpr c28; clear c28; by_cases c29 : 0 ≤ a1
        ·rw [if_pos c29] at H; have c29b0 : decide (0 ≤ a1) = true := decide_eq_true c29; clear c29; by_cases c30 : a1 < (l0.length : Int)
         ·rw [if_pos c30] at H; have c30b0 : decide (a1 < (l0.length : Int)) = true := decide_eq_true c30; clear c30; simp only [Option.some.injEq, Prod.mk.injEq] at H; obtain ⟨rfl, rfl, rfl⟩ := H; obtain ⟨Ao31, co31, eo31⟩ := Kd.R_slice HO_7.out; subst eo31; have p170 : 0 ≤ (a1 : Int) := of_decide_eq_true (by first | (with_reducible assumption) | assumption); have q170 : a1 < (l0.length : Int) := of_decide_eq_true (by first | (with_reducible assumption) | assumption); obtain ⟨ad170, e170, hx170_0⟩ := Kd.at_int HR0.out a1 p170 q170; obtain rfl : ad161 = ad170 := (by injection e170); replace hx170_0 := (HB.out.cell (World.block_lt_of_cell? w _ hx170_0)).trans hx170_0; replace p170 := eq_true p170; replace q170 := eq_true q170; go_wp2; (repeat (go_quiet (fail); try go_wp2)); go_ret3; exact ⟨by first | rfl | (simp [errW_none, errW_some] <;> rfl) | (simp [*, errW_none, errW_some] <;> rfl), by repeat (first | (with_reducible first | exact HB.out | apply below_alloc | apply pw_below_drewN | apply below_drew1) | exact HB.out)⟩
         ·rw [if_neg c30] at H; exact absurd H (by simp)
        ·rw [if_neg c29] at H; exact absurd H (by simp)
       ·rw [if_neg c28] at H; have c28b0 : (x9_6 == 1) = false := beq_eq_false_iff_ne.mpr c28; have c28b1 : (x9_6 != 1) = true := bne_iff_ne.mpr c28; by_cases c32 : 0 ≤ a1
        ·rw [if_pos c32] at H; have c32b0 : decide (0 ≤ a1) = true := decide_eq_true c32; clear c32; by_cases c33 : a1 < (l0.length : Int)
         ·rw [if_pos c33] at H; have c33b0 : decide (a1 < (l0.length : Int)) = true := decide_eq_true c33; clear c33; obtain ⟨ji34, hji34⟩ : ∃ j_ : Int, (wrap64 (7 - x9_6)) = j_ := ⟨_, rfl⟩; (replace H : (if 0 ≤ (ji34) then (if (shl .i32 1 (ji34)) = 0 then (none) else (tremaref01_At.l1 kj6 l0 a1 x9_6 (Int.tmod (wrap32 (rd l0 a1)) (shl .i32 1 (ji34))) 1)) else (none)) = some (r1, r2, r3) := by first | (rw [hji34] at H; exact H) | (simp only [hji34] at H ⊢; exact H)); have hji34w : (IntKind.i64.wrap (7 - x9_6)) = ji34 := (i64_w _).trans hji34; by_cases c35 : 0 ≤ (ji34)
          ·rw [if_pos c35] at H; have c35b0 := eq_true c35; have c35b1 : decide (0 ≤ (ji34)) = true := decide_eq_true c35; clear c35; obtain ⟨ji36, hji36⟩ : ∃ j_ : Int, (shl .i32 1 (ji34)) = j_ := ⟨_, rfl⟩; (replace H : (if (ji36) = 0 then (none) else (tremaref01_At.l1 kj6 l0 a1 x9_6 (Int.tmod (wrap32 (rd l0 a1)) (ji36)) 1)) = some (r1, r2, r3) := by first | (rw [hji36] at H; exact H) | (simp only [hji36] at H ⊢; exact H)); have hji36_ : (IntKind.i32.wrap (1 * 2 ^ min (ji34).toNat 32)) = ji36 := hji36; have hji36z : (ji34) ≤ 32 → (IntKind.i32.wrap (1 * 2 ^ (ji34).toNat)) = ji36 := shl_small hji36; (have hji36u : (IntKind.i32.wrap (2 ^ min (ji34).toNat 32)) = ji36 := by have h_ := hji36_; rw [Int.one_mul] at h_; exact h_); (have hji36v : (ji34) ≤ 32 → (IntKind.i32.wrap (2 ^ (ji34).toNat)) = ji36 := fun hle_ => by have h_ := hji36z hle_; rw [Int.one_mul] at h_; exact h_); have hji36y : (wrap32 (1 * 2 ^ min (ji34).toNat 32)) = ji36 := (i32_w _).symm.trans hji36_; (have hji36x : (ji34) ≤ 32 → (wrap32 (1 * 2 ^ (ji34).toNat)) = ji36 := fun h_ => (i32_w _).symm.trans (hji36z h_)); by_cases c37 : (ji36) = 0
           ·rw [if_pos c37] at H; exact absurd H (by simp)
           ·rw [if_neg c37] at H; have c37b0 : ((ji36) == 0) = false := beq_eq_false_iff_ne.mpr c37; have c37b1 : ((ji36) != 0) = true := bne_iff_ne.mpr c37; have H' := Aside0.mk H; clear H; obtain ⟨Ao38, co38, eo38⟩ := Kd.R_slice HO_7.out; subst eo38; have p171 : 0 ≤ (a1 : Int) := of_decide_eq_true (by first | (with_reducible assumption) | assumption); have q171 : a1 < (l0.length : Int) := of_decide_eq_true (by first | (with_reducible assumption) | assumption); obtain ⟨ad171, e171, hx171_0⟩ := Kd.at_int HR0.out a1 p171 q171; obtain rfl : ad161 = ad171 := (by injection e171); replace hx171_0 := (HB.out.cell (World.block_lt_of_cell? w _ hx171_0)).trans hx171_0; replace p171 := eq_true p171; replace q171 := eq_true q171; go_wp2; (repeat (go_quiet (fail); try go_wp2)); go_loopg [10, 11] kj6 (fun kq v10 v11 w' => ∃ (x10_2 : Int) (x11_2 : Int), v10 = .int .i32 x10_2 ∧ v11 = .int .i64 x11_2 ∧ Aside0 (tremaref01_At.l1 kq l0 a1 x9_6 x10_2 x11_2 = some (r1, r2, r3)) ∧ Aside0 (kq ≤ kj6) ∧ Aside0 (Below w.heap.size w w'))
            case atStart => exact ⟨(Int.tmod (wrap32 (rd l0 a1)) (ji36)), (1), (by first | rfl | (simp; done) | (simp only [← hji36] <;> (first | rfl | simp)) | (simp [*]; done)), (by first | rfl | (simp; done) | (simp [*]; done)), H', ⟨Nat.le_refl _⟩, ⟨by repeat (first | (with_reducible first | exact HB.out | apply below_alloc | apply pw_below_drewN | apply below_drew1) | exact HB.out)⟩⟩
            case round =>
             clear H'; (try clear c1); (try clear p1); (try clear q1); (try clear hx1); (try clear c2); (try clear p2); (try clear c3); (try clear c3b0); (try clear p3); (try clear c4); (try clear c4b0); (try clear c6); (try clear p6); (try clear c8); (try clear c9); (try clear c9b0); (try clear c10); (try clear c10b0); (try clear c12); (try clear c12b0); (try clear c14); (try clear c14b0); (try clear c15); (try clear c15b0); (try clear c16); (try clear c16b0); (try clear p16); (try clear q16); (try clear hx16); (try clear p17); (try clear q17); (try clear hx17); (try clear c18); (try clear c18b0); (try clear c19); (try clear c19b0); (try clear c20); (try clear c20b0); (try clear c26); (try clear c26b0); (try clear c28); (try clear c28b0); (try clear c28b1); (try clear c29); (try clear c29b0); (try clear c30); (try clear c30b0); (try clear c32); (try clear c32b0); (try clear p32); (try clear c33); (try clear c33b0); (try clear c35); (try clear c35b0); (try clear c35b1); (try clear c37); (try clear c37b0); (try clear c37b1); (try clear hx161_0); (try clear hx166_0); (try clear hx167_0); (try clear hx168_0); (try clear hx169_0); (try clear hx170_0); (try clear hx171_0); (try clear p1); (try clear p16); (try clear p161); (try clear p166); (try clear p167); (try clear p168); (try clear p169); (try clear p170); (try clear p171); (try clear p2); (try clear p6); (try clear q1); (try clear q16); (try clear q161); (try clear q166); (try clear q167); (try clear q168); (try clear q169); (try clear q170); (try clear q171); obtain ⟨x10_2, x11_2, rfl, rfl, HA, HK2, HB⟩ := hrel
             cases gk with
             | zero => exact absurd HA.out (by simp [tremaref01_At.l1])
             | succ k2 =>
              have H := HA.out; clear HA; simp only [tremaref01_At.l1] at H; by_cases c39 : x11_2 < x9_6
              ·rw [if_pos c39] at H; have c39b0 : decide (x11_2 < x9_6) = true := decide_eq_true c39; clear c39; obtain ⟨ji40, hji40⟩ : ∃ j_ : Int, (wrap64 (a1 + x11_2)) = j_ := ⟨_, rfl⟩; (replace H : (if 0 ≤ (ji40) then (if (ji40) < (l0.length : Int) then (tremaref01_At.l1 k2 l0 a1 x9_6 (wrap32 ((wrap32 (x10_2 * 64)) + (Int.tmod (wrap32 (rd l0 (ji40))) 64))) (wrap64 (x11_2 + 1))) else (none)) else (none)) = some (r1, r2, r3) := by first | (rw [hji40] at H; exact H) | (simp only [hji40] at H ⊢; exact H)); have hji40w : (IntKind.i64.wrap (a1 + x11_2)) = ji40 := (i64_w _).trans hji40; by_cases c41 : 0 ≤ (ji40)
               ·rw [if_pos c41] at H; have c41b0 : decide (0 ≤ (ji40)) = true := decide_eq_true c41; clear c41; by_cases c42 : (ji40) < (l0.length : Int)
                ·rw [if_pos c42] at H; have c42b0 : decide ((ji40) < (l0.length : Int)) = true := decide_eq_true c42; clear c42; have H' := Aside0.mk H; clear H; have p172 : 0 ≤ ((ji40) : Int) := of_decide_eq_true (by first | (with_reducible assumption) | assumption); have q172 : (ji40) < (l0.length : Int) := of_decide_eq_true (by first | (with_reducible assumption) | assumption); obtain ⟨ad172, e172, hx172_0⟩ := Kd.at_int HR0.out (ji40) p172 q172; obtain rfl : ad161 = ad172 := (by injection e172); replace hx172_0 := (HB.out.cell (World.block_lt_of_cell? w _ hx172_0)).trans hx172_0; replace p172 := eq_true p172; replace q172 := eq_true q172; go_wp2; (repeat (go_quiet (fail); try go_wp2)); go_roundg k2
                 case measure => have := HJ6.out; have := HK2.out; omega
                 case rel => exact ⟨(wrap32 ((wrap32 (x10_2 * 64)) + (Int.tmod (wrap32 (rd l0 (ji40))) 64))), (wrap64 (x11_2 + 1)), (by first | rfl | (simp; done) | (simp only [← hji40] <;> (first | rfl | simp)) | (simp [*]; done)), (by first | rfl | (simp; done) | (simp [*]; done)), H', ⟨by have := HJ6.out; have := HK2.out; omega⟩, ⟨by repeat (first | (with_reducible first | exact HB.out | apply below_alloc | apply pw_below_drewN | apply below_drew1) | exact HB.out)⟩⟩
                ·rw [if_neg c42] at H; exact absurd H (by simp)
               ·rw [if_neg c41] at H; exact absurd H (by simp)
              ·rw [if_neg c39] at H; have c39b0 : decide (x11_2 < x9_6) = false := decide_eq_false c39; clear c39; simp only [Option.some.injEq, Prod.mk.injEq] at H; obtain ⟨rfl, rfl, rfl⟩ := H; go_wp2; (repeat (go_quiet (fail); try go_wp2)); go_ret3; exact ⟨by first | rfl | (simp [errW_none, errW_some] <;> rfl) | (simp only [← hji34, ← hji36]; first | rfl | (simp [errW_none, errW_some] <;> rfl)) | (simp [*, errW_none, errW_some] <;> rfl), by repeat (first | (with_reducible first | exact HB.out | apply below_alloc | apply pw_below_drewN | apply below_drew1) | exact HB.out)⟩
          ·rw [if_neg c35] at H; exact absurd H (by simp)
         ·rw [if_neg c33] at H; exact absurd H (by simp)
        ·rw [if_neg c32] at H; exact absurd H (by simp)
   ·replace c6 := Bool.eq_false_iff.mpr c6; subst c6; rw [if_neg (show ¬ (false = true) by decide)] at H; simp only [Option.some.injEq, Prod.mk.injEq] at H; obtain ⟨rfl, rfl, rfl⟩ := H; have p161 : 0 ≤ (a1 : Int) := of_decide_eq_true (by first | (with_reducible assumption) | assumption); have q161 : a1 < (l0.length : Int) := of_decide_eq_true (by first | (with_reducible assumption) | assumption); obtain ⟨ad161, e161, hx161_0⟩ := Kd.at_int HR0.out a1 p161 q161; cases e161; replace p161 := eq_true p161; replace q161 := eq_true q161; go_enter Tryd.func82, Tryd.ntmps82; go_wp2_with (first | (go_at_call 98; (with_reducible refine (tremaref01_row.calls k (rd l0 a1) t162 false _ A5.out).mono ?_); rintro e w43 ⟨v164, rfl, ho0, hb⟩; have n0_ := Aside0.mk (Kd.R_lower ho0 (below_size (by repeat (first | (with_reducible first | exact HB.out | apply below_alloc | apply pw_below_drewN | apply below_drew1) | exact HB.out)))); have n1_ := Aside0.mk (below_step (by repeat (first | (with_reducible first | exact HB.out | apply below_alloc | apply pw_below_drewN | apply below_drew1) | exact HB.out)) hb); clear HB; have HO165 := n0_; have HB := n1_; clear n0_ n1_; (try clear hb); (try clear hb2); (try clear hk); (try clear hi); (try clear ho0))); (repeat (go_quiet (first | (go_at_call 98; (with_reducible refine (tremaref01_row.calls k (rd l0 a1) t162 false _ A5.out).mono ?_); rintro e w43 ⟨v164, rfl, ho0, hb⟩; have n0_ := Aside0.mk (Kd.R_lower ho0 (below_size (by repeat (first | (with_reducible first | exact HB.out | apply below_alloc | apply pw_below_drewN | apply below_drew1) | exact HB.out)))); have n1_ := Aside0.mk (below_step (by repeat (first | (with_reducible first | exact HB.out | apply below_alloc | apply pw_below_drewN | apply below_drew1) | exact HB.out)) hb); clear HB; have HO165 := n0_; have HB := n1_; clear n0_ n1_; (try clear hb); (try clear hb2); (try clear hk); (try clear hi); (try clear ho0))); try go_wp2_with (first | (go_at_call 98; (with_reducible refine (tremaref01_row.calls k (rd l0 a1) t162 false _ A5.out).mono ?_); rintro e w43 ⟨v164, rfl, ho0, hb⟩; have n0_ := Aside0.mk (Kd.R_lower ho0 (below_size (by repeat (first | (with_reducible first | exact HB.out | apply below_alloc | apply pw_below_drewN | apply below_drew1) | exact HB.out)))); have n1_ := Aside0.mk (below_step (by repeat (first | (with_reducible first | exact HB.out | apply below_alloc | apply pw_below_drewN | apply below_drew1) | exact HB.out)) hb); clear HB; have HO165 := n0_; have HB := n1_; clear n0_ n1_; (try clear hb); (try clear hb2); (try clear hk); (try clear hi); (try clear ho0))))); go_ret3; exact ⟨by first | rfl | (simp [errW_none, errW_some] <;> rfl) | (simp [*, errW_none, errW_some] <;> rfl), by repeat (first | (with_reducible first | exact HB.out | apply below_alloc | apply pw_below_drewN | apply below_drew1) | exact HB.out)⟩
  ·rw [if_neg c4] at H; exact absurd H (by simp)
 ·rw [if_neg c3] at H; exact absurd H (by simp)
end Go.Proofs.YthffpkdadffinaaDoor.X
namespace Go.Proofs.YthffpkdadffinaaDoor.X
open Go.RowKit YthffpkdadffinaaDoorW.PrintWords YthffpkdadffinaaDoorW.PrintLast YthffpkdadffinaaDoorW.PrintMore
attribute [local go_sem] max2_int min2_int max_two min_two max_three min_three max_four min_four   
set_option linter.unusedVariables false
set_option linter.unusedSimpArgs false
def tremaref01_Decode.l0 : Nat → List Int → Bool → List (S103) → Int → Option ((List (S103)))
 | 0, _, _, _, _ => none
 | k + 1, x0, x1, x5, x6 => if x6 < (x0.length : Int) then ((tremaref01_At.f k x0 x6).bind fun bt173 => (if x1 = true then (if bt173.2.2 = true then (some x5) else (if x5.length < 5864062014805 then (tremaref01_Decode.l0 k x0 x1 (x5 ++ [(⟨bt173.1, x6, bt173.2.1⟩ : S103)]) (wrap64 (x6 + bt173.2.1))) else (none))) else (if x5.length < 5864062014805 then (tremaref01_Decode.l0 k x0 x1 (x5 ++ [(⟨bt173.1, x6, bt173.2.1⟩ : S103)]) (wrap64 (x6 + bt173.2.1))) else (none)))) else (some x5)
def tremaref01_Decode.f (k : Nat) (l0 : List Int) (a1 : Bool) : Option ((List (S103))) := tremaref01_Decode.l0 k l0 a1 ([] : List (S103)) 0
theorem tremaref01_Decode.mono_l : ∀ k, (∀ y0 y1 y2 y3, LeO (tremaref01_Decode.l0 k y0 y1 y2 y3) (tremaref01_Decode.l0 (k + 1) y0 y1 y2 y3))
 | 0 => fun _ _ _ _ r h => by simp [tremaref01_Decode.l0] at h
 | k + 1 => by
  have ih0 := tremaref01_Decode.mono_l k
  ·intro y0 y1 y2 y3; unfold tremaref01_Decode.l0; repeat' first | (with_reducible exact ih0 _ _ _ _) | (with_reducible exact tremaref01_At.mono _ _ _) | (with_reducible exact LeO.refl _) | (with_reducible exact LeO.none _) | (with_reducible refine LeO.ite ?_ ?_) | (with_reducible refine LeO.bind ?_ (fun _ => ?_)) | exact ih0 _ _ _ _ | exact tremaref01_At.mono _ _ _ | exact LeO.none _ | refine LeO.ite ?_ ?_ | refine LeO.bind ?_ (fun _ => ?_)
theorem tremaref01_Decode.mono : ∀ a0 a1 k, LeO (tremaref01_Decode.f k a0 a1) (tremaref01_Decode.f (k + 1) a0 a1) := by
 intro a0 a1 k; have ih0 := tremaref01_Decode.mono_l k; unfold tremaref01_Decode.f; repeat' first | (with_reducible exact ih0 _ _ _ _) | (with_reducible exact tremaref01_At.mono _ _ _) | (with_reducible exact LeO.refl _) | (with_reducible exact LeO.none _) | (with_reducible refine LeO.ite ?_ ?_) | (with_reducible refine LeO.bind ?_ (fun _ => ?_)) | exact ih0 _ _ _ _ | exact tremaref01_At.mono _ _ _ | exact LeO.none _ | refine LeO.ite ?_ ?_ | refine LeO.bind ?_ (fun _ => ?_)
set_option maxHeartbeats 8000000 in
set_option maxRecDepth 100000 in
theorem tremaref01_Decode.calls (k : Nat) (A0 : Option Addr) (c0 : Nat) (l0 : List Int) (a1 : Bool) (r : List (S103)) (w : World) (hr0 : Kd.C (Kd.int .u8) w A0 l0.length l0) (hc0 : l0.length ≤ c0) (h : tremaref01_Decode.f k l0 a1 = some r) :
  Calls Tryd.prog 47 #[.slice A0 l0.length c0, .bool a1] w fun e w' => ∃ v0_ : Value, e = .returned (v0_) ∧ Kd.R k103 103 w' w.heap.size (fun _ => True) v0_ r ∧ Below w.heap.size w w' := by
 have hu103 := Tryd.underlying103; have HR0 := Aside0.mk hr0; have HC0 := Aside0.mk hc0; clear hr0 hc0; have HB := Aside0.mk (Below.refl w.heap.size w); have H : (tremaref01_Decode.l0 k l0 a1 ([] : List (S103)) 0) = some r := h; clear h; have H' := Aside0.mk H; clear H; go_enter Tryd.func47, Tryd.ntmps47; go_wp2; go_loopg [5, 6] k (fun kq v5 v6 w' => ∃ (x5_1 : List (S103)) (x6_1 : Int), v6 = .int .i64 x6_1 ∧ Aside0 (tremaref01_Decode.l0 kq l0 a1 x5_1 x6_1 = some r) ∧ Aside0 (kq ≤ k) ∧ Aside0 (Kd.R k103 103 w' w.heap.size (fun _ => True) v5 x5_1) ∧ Aside0 (Below w.heap.size w w'))
 case atStart => exact ⟨(([] : List (S103))), (0), (by first | rfl | (simp; done) | (simp [*]; done)), H', ⟨Nat.le_refl _⟩, ⟨by first | exact Kd.R_nil _ _ _ _ _ | exact Kd.N_nil _ _ _ _ _ | exact Kd.V_nil _ _ _ _ _ | exact Kd.Q_nil _ _ _ _ _ | exact Kd.S_nil _ _ _ _ _⟩, ⟨by repeat (first | (with_reducible first | exact HB.out | apply below_alloc | apply pw_below_drewN | apply below_drew1) | exact HB.out)⟩⟩
 case round =>
  clear H'; (try clear p2); obtain ⟨x5_1, x6_1, rfl, HA, HK1, HO_5, HB⟩ := hrel
  cases gk with
  | zero => exact absurd HA.out (by simp [tremaref01_Decode.l0])
  | succ k1 =>
   have H := HA.out; clear HA; simp only [tremaref01_Decode.l0] at H; by_cases c3 : x6_1 < (l0.length : Int)
   ·rw [if_pos c3] at H; have c3b0 : decide (x6_1 < (l0.length : Int)) = true := decide_eq_true c3; clear c3; replace H := Option.bind_eq_some_iff.mp H; obtain ⟨⟨t173, t174, t175⟩, A40, H⟩ := H; (try dsimp only at H); have A4 := Aside0.mk A40; clear A40; by_cases c5 : a1 = true
    ·subst c5; rw [if_pos rfl] at H; by_cases c6 : t175 = true
     ·subst c6; rw [if_pos rfl] at H; obtain rfl := Option.some.inj H; go_wp2_with (first | ((with_reducible refine gate_callee (f := 82) rfl ?_); refine goesL_ (some 17) rfl rfl Tryd.func82 (by kernel_rfl) rfl #[.slice A0 l0.length c0, .int .i64 x6_1] rfl (by (try simp only [List.map_toArray, List.map_cons, List.map_nil]); first | done | rfl | (simp only [List.length_drop, List.length_take]; rfl)) ?_; (with_reducible refine (tremaref01_At.calls k1 _ _ l0 x6_1 t173 t174 true _ ?side1 ?side2 A4.out).mono ?_); (case side1 => repeat (first | exact (Kd.C_below HR0.out HB.out) | (with_reducible refine Kd.C_alloc ?_ _) | (with_reducible refine Kd.C_drewN ?_ _) | (with_reducible refine Kd.C_drew ?_))); (case side2 => exact HC0.out); rintro e w7 ⟨rfl, hb⟩; refine ⟨_, rfl, ?_⟩; have n0_ := Aside0.mk (Kd.R_below (by (with_reducible repeat (first | apply Kd.R_alloc | apply Kd.R_drewN | apply Kd.R_drew)); exact HO_5.out) hb); have n1_ := Aside0.mk (below_step (by repeat (first | (with_reducible first | exact HB.out | apply below_alloc | apply pw_below_drewN | apply below_drew1) | exact HB.out)) hb); clear HO_5; clear HB; have HO_5 := n0_; have HB := n1_; clear n0_ n1_; (try clear hb); (try clear hb2); (try clear hk); (try clear hi))); go_ret; exact ⟨_, by first | rfl | (simp [errW_none, errW_some] <;> rfl) | (simp [*, errW_none, errW_some] <;> rfl), by (with_reducible repeat (first | apply Kd.R_alloc | apply Kd.R_drewN | apply Kd.R_drew)); exact HO_5.out, by repeat (first | (with_reducible first | exact HB.out | apply below_alloc | apply pw_below_drewN | apply below_drew1) | exact HB.out)⟩
     ·replace c6 := Bool.eq_false_iff.mpr c6; subst c6; rw [if_neg (show ¬ (false = true) by decide)] at H; by_cases c8 : x5_1.length < 5864062014805
      ·rw [if_pos c8] at H; have LMc8 := Aside0.mk c8; clear c8; obtain ⟨y176, hy176⟩ : ∃ y_ : List (S103), y_ = (x5_1 ++ [(⟨t173, x6_1, t174⟩ : S103)]) := ⟨_, rfl⟩; (replace H : (tremaref01_Decode.l0 k1 l0 true y176 (wrap64 (x6_1 + t174))) = some r := by first | (rw [hy176]; with_reducible exact H) | (have H2_ := (Option.bind_some _ _).symm.trans H; rw [hy176]; with_reducible exact H2_) | (have H2_ := (Option.bind_some _ _).symm.trans H; with_reducible exact H2_) | with_reducible exact H | (rw [hy176]; exact H) | exact H); have Ny176 := Aside0.mk hy176; clear hy176; have H' := Aside0.mk H; clear H; go_wp2_with (first | ((with_reducible refine gate_callee (f := 82) rfl ?_); refine goesL_ (some 17) rfl rfl Tryd.func82 (by kernel_rfl) rfl #[.slice A0 l0.length c0, .int .i64 x6_1] rfl (by (try simp only [List.map_toArray, List.map_cons, List.map_nil]); first | done | rfl | (simp only [List.length_drop, List.length_take]; rfl)) ?_; (with_reducible refine (tremaref01_At.calls k1 _ _ l0 x6_1 t173 t174 false _ ?side1 ?side2 A4.out).mono ?_); (case side1 => repeat (first | exact (Kd.C_below HR0.out HB.out) | (with_reducible refine Kd.C_alloc ?_ _) | (with_reducible refine Kd.C_drewN ?_ _) | (with_reducible refine Kd.C_drew ?_))); (case side2 => exact HC0.out); rintro e w9 ⟨rfl, hb⟩; refine ⟨_, rfl, ?_⟩; have n0_ := Aside0.mk (Kd.R_below (by (with_reducible repeat (first | apply Kd.R_alloc | apply Kd.R_drewN | apply Kd.R_drew)); exact HO_5.out) hb); have n1_ := Aside0.mk (below_step (by repeat (first | (with_reducible first | exact HB.out | apply below_alloc | apply pw_below_drewN | apply below_drew1) | exact HB.out)) hb); clear HO_5; clear HB; have HO_5 := n0_; have HB := n1_; clear n0_ n1_; (try clear hb); (try clear hb2); (try clear hk); (try clear hi)) | ((with_reducible refine gate_builtin (b := .append) (xs := #[.tmp 26, .tmp 31]) rfl ?_); at_builtin; refine Kd.R_append k103 (w0 := w) w.heap.size rfl (.tmp 26) (.tmp 31) 74 103 (.agg #[(.int .i32 0), (.int .i64 0), (.int .i64 0)]) 24 rfl Tryd.underlying74 info103 rfl (by decide) (by omega) u5 x5_1 (⟨t173, x6_1, t174⟩ : S103) [.int .i32 t173, .int .i64 x6_1, .int .i64 t174] (fun _ => True) (fun _ => False) rfl rfl ?aP (fun _ hk => hk.elim) ?aF ?aO ?aB ?aS ?aL ?_; (case aP => exact k103_mkM _ _ _ (⟨t173, x6_1, t174⟩ : S103)); (case aB => exact (by repeat (first | (with_reducible first | exact HB.out | apply below_alloc | apply pw_below_drewN | apply below_drew1) | exact HB.out))); (case aF => exact (fun _ _ => trivial)); (case aO => exact (by (with_reducible repeat (first | apply Kd.R_alloc | apply Kd.R_drewN | apply Kd.R_drew)); exact HO_5.out)); (case aS => exact (below_size (by repeat (first | (with_reducible first | exact HB.out | apply below_alloc | apply pw_below_drewN | apply below_drew1) | exact HB.out)))); (case aL => have := LMc8.out; omega); intro v177 w10 ho hb hg hat; rw [← Ny176.out] at ho; have n0_ := Aside0.mk (hb); have n1_ := Aside0.mk (ho); clear HB; clear HO_5; have HB := n0_; have HO178 := n1_; clear n0_ n1_; clear ho hb hg hat)); go_roundg k1
       case measure => have := HK1.out; omega
       case rel => exact ⟨(y176), (wrap64 (x6_1 + t174)), (by first | rfl | (simp; done) | (simp [*]; done)), H', ⟨by have := HK1.out; omega⟩, ⟨by (with_reducible repeat (first | apply Kd.R_alloc | apply Kd.R_drewN | apply Kd.R_drew)); exact HO178.out⟩, ⟨by repeat (first | (with_reducible first | exact HB.out | apply below_alloc | apply pw_below_drewN | apply below_drew1) | exact HB.out)⟩⟩
      ·rw [if_neg c8] at H; exact absurd H (by simp)
    ·replace c5 := Bool.eq_false_iff.mpr c5; subst c5; rw [if_neg (show ¬ (false = true) by decide)] at H; by_cases c11 : x5_1.length < 5864062014805
     ·rw [if_pos c11] at H; have LMc11 := Aside0.mk c11; clear c11; obtain ⟨y179, hy179⟩ : ∃ y_ : List (S103), y_ = (x5_1 ++ [(⟨t173, x6_1, t174⟩ : S103)]) := ⟨_, rfl⟩; (replace H : (tremaref01_Decode.l0 k1 l0 false y179 (wrap64 (x6_1 + t174))) = some r := by first | (rw [hy179]; with_reducible exact H) | (have H2_ := (Option.bind_some _ _).symm.trans H; rw [hy179]; with_reducible exact H2_) | (have H2_ := (Option.bind_some _ _).symm.trans H; with_reducible exact H2_) | with_reducible exact H | (rw [hy179]; exact H) | exact H); have Ny179 := Aside0.mk hy179; clear hy179; have H' := Aside0.mk H; clear H; go_wp2_with (first | ((with_reducible refine gate_callee (f := 82) rfl ?_); refine goesL_ (some 17) rfl rfl Tryd.func82 (by kernel_rfl) rfl #[.slice A0 l0.length c0, .int .i64 x6_1] rfl (by (try simp only [List.map_toArray, List.map_cons, List.map_nil]); first | done | rfl | (simp only [List.length_drop, List.length_take]; rfl)) ?_; (with_reducible refine (tremaref01_At.calls k1 _ _ l0 x6_1 t173 t174 t175 _ ?side1 ?side2 A4.out).mono ?_); (case side1 => repeat (first | exact (Kd.C_below HR0.out HB.out) | (with_reducible refine Kd.C_alloc ?_ _) | (with_reducible refine Kd.C_drewN ?_ _) | (with_reducible refine Kd.C_drew ?_))); (case side2 => exact HC0.out); rintro e w12 ⟨rfl, hb⟩; refine ⟨_, rfl, ?_⟩; have n0_ := Aside0.mk (Kd.R_below (by (with_reducible repeat (first | apply Kd.R_alloc | apply Kd.R_drewN | apply Kd.R_drew)); exact HO_5.out) hb); have n1_ := Aside0.mk (below_step (by repeat (first | (with_reducible first | exact HB.out | apply below_alloc | apply pw_below_drewN | apply below_drew1) | exact HB.out)) hb); clear HO_5; clear HB; have HO_5 := n0_; have HB := n1_; clear n0_ n1_; (try clear hb); (try clear hb2); (try clear hk); (try clear hi)) | ((with_reducible refine gate_builtin (b := .append) (xs := #[.tmp 26, .tmp 31]) rfl ?_); at_builtin; refine Kd.R_append k103 (w0 := w) w.heap.size rfl (.tmp 26) (.tmp 31) 74 103 (.agg #[(.int .i32 0), (.int .i64 0), (.int .i64 0)]) 24 rfl Tryd.underlying74 info103 rfl (by decide) (by omega) u5 x5_1 (⟨t173, x6_1, t174⟩ : S103) [.int .i32 t173, .int .i64 x6_1, .int .i64 t174] (fun _ => True) (fun _ => False) rfl rfl ?aP (fun _ hk => hk.elim) ?aF ?aO ?aB ?aS ?aL ?_; (case aP => exact k103_mkM _ _ _ (⟨t173, x6_1, t174⟩ : S103)); (case aB => exact (by repeat (first | (with_reducible first | exact HB.out | apply below_alloc | apply pw_below_drewN | apply below_drew1) | exact HB.out))); (case aF => exact (fun _ _ => trivial)); (case aO => exact (by (with_reducible repeat (first | apply Kd.R_alloc | apply Kd.R_drewN | apply Kd.R_drew)); exact HO_5.out)); (case aS => exact (below_size (by repeat (first | (with_reducible first | exact HB.out | apply below_alloc | apply pw_below_drewN | apply below_drew1) | exact HB.out)))); (case aL => have := LMc11.out; omega); intro v180 w13 ho hb hg hat; rw [← Ny179.out] at ho; have n0_ := Aside0.mk (hb); have n1_ := Aside0.mk (ho); clear HB; clear HO_5; have HB := n0_; have HO181 := n1_; clear n0_ n1_; clear ho hb hg hat)); go_roundg k1
      case measure => have := HK1.out; omega
      case rel => exact ⟨(y179), (wrap64 (x6_1 + t174)), (by first | rfl | (simp; done) | (simp [*]; done)), H', ⟨by have := HK1.out; omega⟩, ⟨by (with_reducible repeat (first | apply Kd.R_alloc | apply Kd.R_drewN | apply Kd.R_drew)); exact HO181.out⟩, ⟨by repeat (first | (with_reducible first | exact HB.out | apply below_alloc | apply pw_below_drewN | apply below_drew1) | exact HB.out)⟩⟩
     ·rw [if_neg c11] at H; exact absurd H (by simp)
   ·rw [if_neg c3] at H; have c3b0 : decide (x6_1 < (l0.length : Int)) = false := decide_eq_false c3; clear c3; obtain rfl := Option.some.inj H; go_wp2; go_ret; exact ⟨_, by first | rfl | (simp [errW_none, errW_some] <;> rfl) | (simp [*, errW_none, errW_some] <;> rfl), by (with_reducible repeat (first | apply Kd.R_alloc | apply Kd.R_drewN | apply Kd.R_drew)); exact HO_5.out, by repeat (first | (with_reducible first | exact HB.out | apply below_alloc | apply pw_below_drewN | apply below_drew1) | exact HB.out)⟩
end Go.Proofs.YthffpkdadffinaaDoor.X
namespace Go.Proofs.YthffpkdadffinaaDoor.Ux
set_option linter.unusedVariables false
set_option linter.unusedSimpArgs false
open Go.RowKit YthffpkdadffinaaDoorW.PrintWords Hp X
def flat : List (Int × Int) → List Int
  | [] => []
  | (a, b) :: l => a :: b :: flat l
theorem flat_len : ∀ bs, (flat bs).length = 2 * bs.length
  | [] => rfl
  | (a, b) :: l => by simp [flat, flat_len l]; omega
theorem flat_get : ∀ (bs : List (Int × Int)) (j : Nat) (h : j < bs.length), (flat bs).getD (2 * j) 0 = bs[j].1 ∧ (flat bs).getD (2 * j + 1) 0 = bs[j].2
  | (a, b) :: l, 0, _ => by simp [flat]
  | (a, b) :: l, j + 1, h => by
    have := flat_get l j (by simpa using h); rw [show 2 * (j + 1) = 2 * j + 2 by omega, show 2 * j + 2 + 1 = 2 * j + 1 + 2 by omega]
    simpa [flat, List.getD_eq_getElem?_getD] using this
theorem row_fin : ∀ n : Fin 256, Urw.rowF (n.1 : Int) = (match bnd (n.1 : Int) with | none => ([], false) | some bs => (flat bs, true)) := by decide +kernel
theorem row_some (c : Int) (h : 0 ≤ c ∧ c ≤ 255) : tremaref01_row.f 8 c = some (match bnd c with | none => ([], false) | some bs => (flat bs, true)) := by
  have e := row_fin ⟨c.toNat, by omega⟩; simp only [show ((c.toNat : Nat) : Int) = c by omega] at e; exact congrArg some e
def mt : List (Int × Int) → List Int → Nat
  | [], _ => 0
  | _ :: _, [] => 0
  | (lo, hi) :: bs, x :: t => if x < lo ∨ hi < x then 0 else mt bs t + 1
def fold (r : Int) (l : List Int) : Int := l.foldl (fun r x => r * 64 + x % 64) r
theorem mt_le : ∀ (bs : List (Int × Int)) (t : List Int), mt bs t ≤ bs.length ∧ mt bs t ≤ t.length
  | [], t => by simp [mt]
  | _ :: _, [] => by simp [mt]
  | (lo, hi) :: bs, x :: t => by
    have := mt_le bs t; simp only [mt]; split <;> simp <;> omega
theorem cont_mt : ∀ (bs : List (Int × Int)) (t : List Int) (r i : Int), cont bs t r i = if mt bs t = bs.length then (fold r (t.take bs.length), i + bs.length, false) else (65533, i + mt bs t, decide (mt bs t = t.length))
  | [], t, r, i => by simp [cont, mt, fold]
  | b :: bs, [], r, i => by simp [cont, mt]
  | (lo, hi) :: bs, x :: t, r, i => by
    simp only [cont, mt]; split
    · simp
    · rw [cont_mt bs t]; simp only [List.length_cons, Nat.add_right_cancel_iff]; split
      · simp only [List.take_succ_cons, fold, List.foldl_cons]; congr 2
        push_cast; omega
      · congr 2
        · push_cast; omega
theorem step_r2 (r x : Int) (h0 : 0 ≤ r) (hr : (r + 1) * 64 ≤ 2097152) (hx : 0 ≤ x ∧ x ≤ 255) : wrap32 ((wrap32 (r * 64)) + (Int.tmod (wrap32 x) 64)) = r * 64 + x % 64 := by
  (have e1 : wrap32 (r * 64) = r * 64 := by unfold wrap32; omega); (have e2 : wrap32 x = x := by unfold wrap32; omega); rw [e1, e2, Int.tmod_eq_emod_of_nonneg hx.1]; unfold wrap32; omega
theorem l1_step (l : List Int) (hl : l.length ≤ 140737488355328) (at_ n j k : Nat) (r : Int) (h1 : j < n) (hlt : at_ + j < l.length) (x : Int) (hxe : x = l[at_ + j]) (hx : 0 ≤ x ∧ x ≤ 255) (h0 : 0 ≤ r) (hr : (r + 1) * 64 ≤ 2097152) :
    tremaref01_At.l1 (k + 1) l at_ (n : Int) r j = tremaref01_At.l1 k l at_ (n : Int) (r * 64 + x % 64) ((j + 1 : Nat) : Int) := by
  (have ea : wrap64 ((at_ : Int) + j) = ((at_ + j : Nat) : Int) := by unfold wrap64; omega); (have ew : wrap64 ((j : Int) + 1) = ((j + 1 : Nat) : Int) := by unfold wrap64; omega); simp only [tremaref01_At.l1]; rw [if_pos (by omega), ea, if_pos (by omega), if_pos (by omega), rd_at l _ hlt, ew, ← hxe, step_r2 r x h0 hr hx]
theorem fold_cons (r x : Int) (t : List Int) : fold r (x :: t) = fold (r * 64 + x % 64) t := rfl
theorem l1_pure (l : List Int) (hb : Bytes l) (hl : l.length ≤ 140737488355328) (at_ : Nat) (n : Nat) (hn : n ≤ 8) (han : at_ + n ≤ l.length) : ∀ (d j k : Nat) (r : Int), n - j = d → j ≤ n → d < k → 0 ≤ r → (r + 1) * (64 ^ d : Nat) ≤ 2097152 →
    tremaref01_At.l1 k l at_ (n : Int) r j = some (fold r ((l.drop (at_ + j)).take d), (n : Int), false) := by
  intro d
  induction d with
  | zero =>
    intro j k r hd hj hk _ _; obtain ⟨k, rfl⟩ : ∃ m, k = m + 1 := ⟨k - 1, by omega⟩; simp only [tremaref01_At.l1]; rw [if_neg (by omega)]; simp [fold]
  | succ d ih =>
    intro j k r hd hj hk h0 hr; obtain ⟨k, rfl⟩ : ∃ m, k = m + 1 := ⟨k - 1, by clear hr; omega⟩; (have hlt : at_ + j < l.length := by clear hr; omega); have hx := hb l[at_ + j] (List.getElem_mem hlt); have hp := step_p (x := l[at_ + j]) h0 (Nat.one_le_pow d 64 (by decide)) (by rw [Nat.pow_succ, Nat.mul_comm] at hr; exact hr); clear hr; (have h5 : 0 ≤ r * 64 + l[at_ + j] % 64 := by clear hp ih; omega); rw [l1_step l hl at_ n j k r (by clear hp ih; omega) hlt _ rfl hx h0 hp.1, ih (j + 1) k _ (by clear hp ih; omega) (by clear hp ih; omega) (by clear hp ih; omega) h5 hp.2, List.drop_eq_getElem_cons hlt, List.take_succ_cons, fold_cons]
    rfl
def fin (l : List Int) (at_ : Nat) (c : Int) (bs : List (Int × Int)) (m : Nat) : Int × Int × Bool :=
  if m < bs.length then (65533, 1 + (m : Int), decide (at_ + 1 + m = l.length)) else (fold (st c) ((l.drop (at_ + 1)).take m), 1 + (m : Int), false)
theorem j1_pure (l : List Int) (hb : Bytes l) (hl : l.length ≤ 140737488355328) (at_ : Nat) (hat : at_ < l.length) (bs : List (Int × Int)) (hbs : bnd l[at_] = some bs) (m k : Nat) (hm : m ≤ bs.length) (hm2 : at_ + 1 + m ≤ l.length) (hk : m + 3 < k) :
    tremaref01_At.j1 k l at_ (flat bs) (1 + (m : Int)) = some (fin l at_ l[at_] bs m) := by
  obtain ⟨k, rfl⟩ : ∃ q, k = q + 1 := ⟨k - 1, by omega⟩; have hc := hb l[at_] (List.getElem_mem hat); have hs := st_bound hc hbs; have h3 := bnd_len hbs; (have ef : wrap64 (((flat bs).length : Int) / 2) = bs.length := by rw [flat_len]; unfold wrap64; omega); simp only [tremaref01_At.j1]; rw [ef]; unfold fin; by_cases h1 : m < bs.length
  · rw [if_pos (by omega), if_pos h1]; (have ea : wrap64 ((at_ : Int) + (1 + m)) = ((at_ + 1 + m : Nat) : Int) := by unfold wrap64; omega); rw [ea]; congr 3; rw [Bool.eq_iff_iff]; simp only [beq_iff_eq, decide_eq_true_eq]; omega
  · (obtain rfl : m = bs.length := by omega); rw [if_neg (by omega), if_neg h1]; (have hw : wrap32 l[at_] = l[at_] := by clear hs; unfold wrap32; omega); by_cases h0 : bs.length = 0
    · rw [if_pos (by omega), if_pos (by omega), if_pos (by omega), rd_at l at_ hat, hw, h0]
      have : st l[at_] = l[at_] := by
        unfold bnd at hbs; unfold st; split at hbs
        · rename_i h; rw [if_pos h]
        · split at hbs
          · cases hbs
          · split at hbs
            · cases hbs; simp at h0
            · split at hbs
              · cases hbs; simp at h0
              · cases hbs; simp at h0
      simp [fold, this]
    · rw [if_neg (by omega), if_pos (by omega), if_pos (by omega)]; (have e7 : wrap64 (7 - (1 + (bs.length : Int))) = 6 - bs.length := by clear hs; unfold wrap64; omega); rw [e7, if_pos (by omega), rd_at l at_ hat, hw]
      have hsh : (shl .i32 1 (6 - (bs.length : Int))) ≠ 0 ∧ Int.tmod l[at_] (shl .i32 1 (6 - (bs.length : Int))) = st l[at_] := by
        unfold bnd at hbs; unfold st; split at hbs
        · cases hbs; simp at h0
        · rename_i g1; rw [if_neg g1]; split at hbs
          · cases hbs
          · split at hbs
            · rename_i g3; cases hbs; rw [if_pos g3]; exact ⟨by decide, by rw [show shl .i32 1 (6 - (([(128, 191)] : List (Int × Int)).length : Int)) = 32 by decide, Int.tmod_eq_emod_of_nonneg hc.1]⟩
            · rename_i g3; rw [if_neg g3]; split at hbs
              · rename_i g4; cases hbs; rw [if_pos g4]; simp only [List.length_cons, List.length_nil]; exact ⟨by decide, by rw [show shl .i32 1 (6 - ((0 + 1 + 1 : Nat) : Int)) = 16 by decide, Int.tmod_eq_emod_of_nonneg hc.1]⟩
              · rename_i g4; cases hbs; rw [if_neg g4]; simp only [List.length_cons, List.length_nil]; exact ⟨by decide, by rw [show shl .i32 1 (6 - ((0 + 1 + 1 + 1 : Nat) : Int)) = 8 by decide, Int.tmod_eq_emod_of_nonneg hc.1]⟩
      rw [if_neg hsh.1, hsh.2]; have := l1_pure l hb hl at_ (1 + bs.length) (by clear hs; omega) (by clear hs; omega) bs.length 1 k (st l[at_]) (by clear hs; omega) (by clear hs; omega) (by clear hs; omega) hs.1 hs.2; rw [show ((1 : Int) + (bs.length : Int)) = ((1 + bs.length : Nat) : Int) by push_cast; rfl]; exact this
theorem ef_len {bs : List (Int × Int)} (h3 : bs.length ≤ 3) : wrap64 (((flat bs).length : Int) / 2) = bs.length := by
  rw [flat_len]; unfold wrap64; omega
theorem rd_flat {bs : List (Int × Int)} {j : Nat} (hj : j < bs.length) : rd (flat bs) ((2 * j : Nat) : Int) = bs[j].1 ∧ rd (flat bs) ((2 * j + 1 : Nat) : Int) = bs[j].2 := by
  have hg := flat_get bs j hj; simp only [rd, Int.toNat_natCast]; exact hg
theorem l0_stop (l : List Int) (at_ k : Nat) (bs : List (Int × Int)) (h3 : bs.length ≤ 3) : tremaref01_At.l0 (k + 1) l at_ (flat bs) (1 + (bs.length : Int)) = tremaref01_At.j1 k l at_ (flat bs) (1 + (bs.length : Int)) := by
  simp only [tremaref01_At.l0]; rw [ef_len h3, if_neg (by omega)]
theorem l0_end (l : List Int) (hl : l.length ≤ 140737488355328) (at_ k j : Nat) (bs : List (Int × Int)) (h3 : bs.length ≤ 3) (hj : j < bs.length) (he : at_ + 1 + j = l.length) : tremaref01_At.l0 (k + 1) l at_ (flat bs) (1 + (j : Int)) = tremaref01_At.j1 k l at_ (flat bs) (1 + (j : Int)) := by
  (have ea : wrap64 ((at_ : Int) + (1 + j)) = ((at_ + 1 + j : Nat) : Int) := by unfold wrap64; omega); simp only [tremaref01_At.l0]; rw [ef_len h3, if_pos (by omega), ea, if_neg (by omega)]
theorem l0_step (l : List Int) (hl : l.length ≤ 140737488355328) (at_ k j : Nat) (bs : List (Int × Int)) (h3 : bs.length ≤ 3) (hj : j < bs.length) (he : at_ + 1 + j < l.length) :
    tremaref01_At.l0 (k + 1) l at_ (flat bs) (1 + (j : Int)) = if l[at_ + 1 + j] < bs[j].1 ∨ bs[j].2 < l[at_ + 1 + j] then tremaref01_At.j1 k l at_ (flat bs) (1 + (j : Int)) else tremaref01_At.l0 k l at_ (flat bs) (1 + ((j + 1 : Nat) : Int)) := by
  (have ea : wrap64 ((at_ : Int) + (1 + j)) = ((at_ + 1 + j : Nat) : Int) := by unfold wrap64; omega); (have e2 : wrap64 ((wrap64 (2 * (1 + (j : Int)))) - 2) = ((2 * j : Nat) : Int) := by unfold wrap64; omega); (have e3 : wrap64 ((wrap64 (2 * (1 + (j : Int)))) - 1) = ((2 * j + 1 : Nat) : Int) := by unfold wrap64; omega); (have ew : wrap64 ((1 + (j : Int)) + 1) = 1 + ((j + 1 : Nat) : Int) := by unfold wrap64; omega); have hf := flat_len bs; simp only [tremaref01_At.l0]; rw [ef_len h3, if_pos (by omega), ea, e2, e3, ew, if_pos (by omega), if_pos (by omega), if_pos (by omega), if_pos (by omega), rd_at l _ he, (rd_flat hj).1, (rd_flat hj).2]; by_cases h1 : l[at_ + 1 + j] ≥ bs[j].1
  · rw [if_pos h1, if_pos (by omega), if_pos (by omega)]; by_cases h2 : l[at_ + 1 + j] ≤ bs[j].2
    · rw [if_pos h2, if_neg (by omega)]
    · rw [if_neg h2, if_pos (by omega)]
  · rw [if_neg h1, if_pos (by omega)]
theorem l0_pure (l : List Int) (hb : Bytes l) (hl : l.length ≤ 140737488355328) (at_ : Nat) (hat : at_ < l.length) (bs : List (Int × Int)) (hbs : bnd l[at_] = some bs) : ∀ (d j k : Nat), bs.length - j = d → j ≤ bs.length → at_ + 1 + j ≤ l.length → bs.length + d + 6 < k →
    tremaref01_At.l0 k l at_ (flat bs) (1 + (j : Int)) = some (fin l at_ l[at_] bs (j + mt (bs.drop j) (l.drop (at_ + 1 + j)))) := by
  have h3 := bnd_len hbs; intro d
  induction d with
  | zero =>
    intro j k hd hj hj2 hk; obtain ⟨k, rfl⟩ : ∃ q, k = q + 1 := ⟨k - 1, by omega⟩; (obtain rfl : j = bs.length := by omega); rw [l0_stop l at_ k bs h3, j1_pure l hb hl at_ hat bs hbs bs.length k (Nat.le_refl _) hj2 (by omega), List.drop_length]
    rfl
  | succ d ih =>
    intro j k hd hj hj2 hk; obtain ⟨k, rfl⟩ : ∃ q, k = q + 1 := ⟨k - 1, by omega⟩; (have hjl : j < bs.length := by omega); have hj1 := j1_pure l hb hl at_ hat bs hbs j k hj hj2 (by omega); by_cases he : at_ + 1 + j < l.length
    · have em : mt (bs.drop j) (l.drop (at_ + 1 + j)) = if l[at_ + 1 + j] < bs[j].1 ∨ bs[j].2 < l[at_ + 1 + j] then 0 else mt (bs.drop (j + 1)) (l.drop (at_ + 1 + (j + 1))) + 1 := by
        rw [List.drop_eq_getElem_cons hjl, List.drop_eq_getElem_cons he]
        rfl
      rw [l0_step l hl at_ k j bs h3 hjl he, em]; by_cases hc : l[at_ + 1 + j] < bs[j].1 ∨ bs[j].2 < l[at_ + 1 + j]
      · rw [if_pos hc, if_pos hc, hj1]
        rfl
      · rw [if_neg hc, if_neg hc, ih (j + 1) k (by omega) (by omega) (by omega) (by omega)]; rw [show j + 1 + mt (bs.drop (j + 1)) (l.drop (at_ + 1 + (j + 1))) = j + (mt (bs.drop (j + 1)) (l.drop (at_ + 1 + (j + 1))) + 1) from by omega]
    · rw [l0_end l hl at_ k j bs h3 hjl (by omega), hj1, List.drop_eq_nil_of_le (i := at_ + 1 + j) (by omega), List.drop_eq_getElem_cons hjl]
      rfl
theorem at_pure (l : List Int) (hb : Bytes l) (hl : l.length ≤ 140737488355328) (at_ : Nat) (hat : at_ < l.length) : tremaref01_At.f 20 l at_ = some (one1 l[at_] (l.drop (at_ + 1))) := by
  have hc := hb l[at_] (List.getElem_mem hat)
  have hrow : tremaref01_row.f 20 l[at_] = some (match bnd l[at_] with | none => ([], false) | some bs => (flat bs, true)) :=
    at_rounds (fun k => tremaref01_row.mono l[at_] k) (by omega) (row_some l[at_] hc)
  unfold tremaref01_At.f; rw [if_pos (by omega), if_pos (by omega), rd_at l at_ hat, hrow]; simp only [Option.bind_some, one1]
  cases h : bnd l[at_] with
  | none => simp
  | some bs =>
    have h3 := bnd_len h; have := l0_pure l hb hl at_ hat bs h bs.length 0 20 rfl (Nat.zero_le _) (by omega) (by omega); have hm := mt_le bs (l.drop (at_ + 1)); rw [Nat.zero_add, Nat.add_zero, List.drop_zero] at this; simp only [if_true]; rw [show (1 : Int) = 1 + ((0 : Nat) : Int) from rfl, this, cont_mt]; unfold fin; by_cases h4 : mt bs (l.drop (at_ + 1)) = bs.length
    · rw [if_neg (by omega), if_pos h4, h4]; rfl
    · (have hlt : mt bs (l.drop (at_ + 1)) < bs.length := by omega); rw [if_pos hlt, if_neg h4]
      have e : decide (at_ + 1 + mt bs (l.drop (at_ + 1)) = l.length) = decide (mt bs (l.drop (at_ + 1)) = (l.drop (at_ + 1)).length) := by
        rw [Bool.eq_iff_iff]; simp only [decide_eq_true_eq, List.length_drop]; omega
      rw [e]
      rfl
end Go.Proofs.YthffpkdadffinaaDoor.Ux
namespace Go.Proofs.YthffpkdadffinaaDoor.Ux
set_option linter.unusedVariables false
set_option linter.unusedSimpArgs false
open Go.RowKit YthffpkdadffinaaDoorW.PrintWords Hp X
def dec : Nat → List Int → Int → List S103 × List Int × Int
  | 0, b, p => ([], b, p)
  | _ + 1, [], p => ([], [], p)
  | k + 1, c :: t, p =>
    if (one1 c t).2.2 = true then ([], c :: t, p)
    else ((⟨(one1 c t).1, p, (one1 c t).2.1⟩ : S103) :: (dec k ((c :: t).drop (one1 c t).2.1.toNat) (p + (one1 c t).2.1)).1, (dec k ((c :: t).drop (one1 c t).2.1.toNat) (p + (one1 c t).2.1)).2)
def dc (b : List Int) (p : Int) : List S103 × List Int × Int := dec b.length b p
def rest1 (b : List Int) (p : Int) : List S103 := if b = [] then [] else [⟨65533, p, b.length⟩]
def full (b : List Int) : List S103 := (dc b 0).1 ++ rest1 (dc b 0).2.1 (dc b 0).2.2
theorem drop_lt (c : Int) (t : List Int) : ((c :: t).drop (one1 c t).2.1.toNat).length ≤ t.length := by
  have := one1_width c t; rw [List.length_drop, List.length_cons]; omega
theorem dec_more : ∀ (k : Nat) (b : List Int) (p : Int), b.length ≤ k → dec k b p = dc b p
  | 0, [], p, _ => rfl
  | 0, c :: t, p, h => by simp at h
  | k + 1, [], p, _ => rfl
  | k + 1, c :: t, p, h => by
    have hd := drop_lt c t; (have h' : t.length ≤ k := by simpa using h); unfold dc; rw [List.length_cons]; simp only [dec]; rw [dec_more k _ _ (by omega), dec_more t.length _ _ hd]
theorem dc_nil (p : Int) : dc [] p = ([], [], p) := rfl
theorem dc_cons (c : Int) (t : List Int) (p : Int) : dc (c :: t) p = if (one1 c t).2.2 = true then ([], c :: t, p) else ((⟨(one1 c t).1, p, (one1 c t).2.1⟩ : S103) :: (dc ((c :: t).drop (one1 c t).2.1.toNat) (p + (one1 c t).2.1)).1, (dc ((c :: t).drop (one1 c t).2.1.toNat) (p + (one1 c t).2.1)).2) := by
  rw [dc, List.length_cons]; simp only [dec]; rw [dec_more t.length _ _ (drop_lt c t)]
theorem dc_ind {P : List Int → Int → Prop} (h0 : ∀ p, P [] p) (h1 : ∀ c t p, (one1 c t).2.2 = true → P (c :: t) p) (h2 : ∀ c t p, (one1 c t).2.2 = false → P ((c :: t).drop (one1 c t).2.1.toNat) (p + (one1 c t).2.1) → P (c :: t) p) : ∀ b p, P b p := by
  intro b
  induction hn : b.length using Nat.strongRecOn generalizing b with
  | _ n ih =>
    intro p
    cases b with
    | nil => exact h0 p
    | cons c t =>
      cases hm : (one1 c t).2.2 with
      | true => exact h1 c t p hm
      | false =>
        have hd := drop_lt c t; exact h2 c t p hm (ih _ (by rw [← hn, List.length_cons]; omega) _ rfl _)
theorem dc_len (b : List Int) (p : Int) : (dc b p).2.2 + (dc b p).2.1.length = p + b.length ∧ (dc b p).1.length + (dc b p).2.1.length ≤ b.length ∧ (dc b p).2.1.length ≤ b.length := by
  refine dc_ind (P := fun b p => (dc b p).2.2 + (dc b p).2.1.length = p + b.length ∧ (dc b p).1.length + (dc b p).2.1.length ≤ b.length ∧ (dc b p).2.1.length ≤ b.length) ?_ ?_ ?_ b p
  · intro p; simp [dc_nil]
  · intro c t p h; rw [dc_cons, if_pos h]; simp
  · intro c t p h ih; have hw := one1_width c t; rw [dc_cons, if_neg (by simp [h])]; simp only [List.length_drop, List.length_cons] at ih ⊢; omega
theorem cont_more : ∀ (bs : List (Int × Int)) (t : List Int) (r i : Int), (cont bs t r i).2.2 = true → (cont bs t r i).1 = 65533 ∧ (cont bs t r i).2.1 = i + t.length ∧ t.length < bs.length
  | [], t, r, i, h => by simp [cont] at h
  | b :: bs, [], r, i, h => by simp [cont]
  | (lo, hi) :: bs, x :: t, r, i, h => by
    simp only [cont] at h ⊢; split
    · rename_i hc; rw [if_pos hc] at h; simp at h
    · rename_i hc; rw [if_neg hc] at h; have := cont_more bs t _ _ h; simp only [List.length_cons]; refine ⟨this.1, by rw [this.2.1]; push_cast; omega, by omega⟩
theorem one1_more (c : Int) (t : List Int) (h : (one1 c t).2.2 = true) : (one1 c t).1 = 65533 ∧ (one1 c t).2.1 = 1 + t.length ∧ t.length < 3 := by
  unfold one1 at h ⊢
  cases hb : bnd c with
  | none => rw [hb] at h; simp at h
  | some bs =>
    rw [hb] at h; have h1 := cont_more bs t _ _ h; have h2 := bnd_len hb; exact ⟨h1.1, h1.2.1, by omega⟩
theorem dc_rest (b : List Int) (p : Int) : (dc b p).2.1.length ≤ 3 ∧ (dc (dc b p).2.1 (dc b p).2.2) = ([], (dc b p).2.1, (dc b p).2.2) := by
  refine dc_ind (P := fun b p => (dc b p).2.1.length ≤ 3 ∧ (dc (dc b p).2.1 (dc b p).2.2) = ([], (dc b p).2.1, (dc b p).2.2)) ?_ ?_ ?_ b p
  · intro p; simp [dc_nil]
  · intro c t p h; have h3 := one1_more c t h; rw [dc_cons, if_pos h]; simp only [List.length_cons]; exact ⟨by omega, by rw [dc_cons, if_pos h]⟩
  · intro c t p h ih; rw [dc_cons, if_neg (by simp [h])]; exact ih
theorem bytes_drop {l : List Int} (h : Bytes l) (n : Nat) : Bytes (l.drop n) := fun x hx => h x (List.mem_of_mem_drop hx)
theorem ref_dec (l : List Int) (hb : Bytes l) (hl : l.length ≤ 1000000000) (op : Bool) : ∀ (d i k : Nat) (acc : List S103), l.length - i = d → i ≤ l.length → d + 30 < k → acc.length ≤ i →
    tremaref01_Decode.l0 k l op acc i = some (acc ++ (dc (l.drop i) i).1 ++ (if op = true then [] else rest1 (dc (l.drop i) i).2.1 (dc (l.drop i) i).2.2)) := by
  intro d
  induction d using Nat.strongRecOn with
  | _ d ih =>
    intro i k acc hd hi hk ha; obtain ⟨k, rfl⟩ : ∃ q, k = q + 1 := ⟨k - 1, by omega⟩; simp only [tremaref01_Decode.l0]; by_cases he : i = l.length
    · rw [if_neg (by omega), List.drop_eq_nil_of_le (by omega)]; simp [dc_nil, rest1]
    · (have hlt : i < l.length := by omega); have hat := at_rounds (fun k => tremaref01_At.mono l i k) (show 20 ≤ k by omega) (at_pure l hb (by omega) i hlt); have hw := one1_width l[i] (l.drop (i + 1)); rw [if_pos (by omega), hat, List.drop_eq_getElem_cons hlt, dc_cons]; simp only [Option.bind_some]; have hlen : (l.drop (i + 1)).length = l.length - i - 1 := by rw [List.length_drop]; omega
      cases hm : (one1 l[i] (l.drop (i + 1))).2.2 with
      | true =>
        have h3 := one1_more _ _ hm; simp only [if_true]
        cases op with
        | true => simp
        | false =>
          simp only [Bool.false_eq_true, if_false]; rw [if_pos (by omega)]; (have ew : wrap64 ((i : Int) + (one1 l[i] (l.drop (i + 1))).2.1) = ((l.length : Nat) : Int) := by rw [h3.2.1]; unfold wrap64; omega); rw [ew, ih 0 (by omega) l.length k _ (by omega) (Nat.le_refl _) (by omega) (by simp; omega), List.drop_length]; simp only [dc_nil, rest1, if_true, List.append_nil, h3.1, h3.2.1]; rw [if_neg (by simp), List.length_cons, show ((1 : Int) + ((l.drop (i + 1)).length : Int)) = (((l.drop (i + 1)).length + 1 : Nat) : Int) by push_cast; omega]; simp; exact hlt
      | false =>
        have ew : wrap64 ((i : Int) + (one1 l[i] (l.drop (i + 1))).2.1) = ((i + (one1 l[i] (l.drop (i + 1))).2.1.toNat : Nat) : Int) := by unfold wrap64; omega
        have ed : (l[i] :: l.drop (i + 1)).drop (one1 l[i] (l.drop (i + 1))).2.1.toNat = l.drop (i + (one1 l[i] (l.drop (i + 1))).2.1.toNat) := by
          rw [← List.drop_eq_getElem_cons hlt, List.drop_drop]
        (have ep : ((i + (one1 l[i] (l.drop (i + 1))).2.1.toNat : Nat) : Int) = (i : Int) + (one1 l[i] (l.drop (i + 1))).2.1 := by omega); have h5 := ih (l.length - (i + (one1 l[i] (l.drop (i + 1))).2.1.toNat)) (by omega) (i + (one1 l[i] (l.drop (i + 1))).2.1.toNat) k (acc ++ [(⟨(one1 l[i] (l.drop (i + 1))).1, i, (one1 l[i] (l.drop (i + 1))).2.1⟩ : S103)]) rfl (by omega) (by omega) (by simp; omega); simp only [Bool.false_eq_true, if_false, ite_self]; rw [if_pos (by omega), ew, h5, ed, ep]; simp
theorem Ref_dec (l : List Int) (hb : Bytes l) (hl : l.length ≤ 1000000000) (op : Bool) : tremaref01_Decode.f (l.length + 31) l op = some ((dc l 0).1 ++ (if op = true then [] else rest1 (dc l 0).2.1 (dc l 0).2.2)) := by
  have := ref_dec l hb hl op l.length 0 (l.length + 31) [] (by omega) (by omega) (by omega) (by simp)
  simpa [tremaref01_Decode.f] using this
end Go.Proofs.YthffpkdadffinaaDoor.Ux
namespace Go.Proofs.YthffpkdadffinaaDoor.Ud
set_option linter.unusedVariables false
set_option linter.unusedSimpArgs false
open Go.RowKit YthffpkdadffinaaDoorW.PrintWords Hp X Ux
abbrev TD : Nat := 106
abbrev TP : Nat := 103
theorem info_8 : (Tryd.prog.info? 5).map (fun i => (i.zero, i.size, i.bytes)) = some (some (.int .u8 0), 1, 1) := by kernel_rfl
theorem info_P : (Tryd.prog.info? 103).map (fun i => (i.zero, i.size, i.bytes)) = some (some (.agg #[.int .i32 0, .int .i64 0, .int .i64 0]), 3, 24) := by kernel_rfl
def IsDec (g base : Nat) (kept : List Int) (at_ : Int) (closed : Bool) (ok : Nat → Prop) (w : World) : Prop :=
  ∃ kv, w.heap[g]? = some (.cells #[kv, .int .i64 at_, .bool closed] TD (0, 0)) ∧ base ≤ g ∧ ok g ∧ w.ownsRow base 5 1 kv kept.length (nums .u8 kept) ∧ ∀ b, kv.ownBlock = some b → ok b ∧ b ≠ g
section
variable {g base : Nat} {kept : List Int} {at_ : Int} {closed : Bool} {ok ok' : Nat → Prop} {w w1 : World}
theorem IsDec.mono (h : IsDec g base kept at_ closed ok w) (hok : ∀ k, ok k → ok' k) : IsDec g base kept at_ closed ok' w := by
  obtain ⟨kv, h1, h2, h3, h4, h5⟩ := h; exact ⟨kv, h1, h2, hok _ h3, h4, fun b hb => ⟨hok _ (h5 b hb).1, (h5 b hb).2⟩⟩
theorem IsDec.bound (h : IsDec g base kept at_ closed ok w) : IsDec g base kept at_ closed (fun k => ok k ∧ k < w.heap.size) w := by
  obtain ⟨kv, h1, h2, h3, h4, h5⟩ := h; exact ⟨kv, h1, h2, ⟨h3, blk_lt h1⟩, h4, fun b hb => ⟨⟨(h5 b hb).1, own_lt h4 b hb⟩, (h5 b hb).2⟩⟩
theorem IsDec.step (h : IsDec g base kept at_ closed ok w) (hm : ∀ k, ok k → k < w.heap.size → w1.heap[k]? = w.heap[k]?) : IsDec g base kept at_ closed ok w1 := by
  obtain ⟨kv, h1, h2, h3, h4, h5⟩ := h; exact ⟨kv, (hm g h3 (blk_lt h1)).trans h1, h2, h3, own_move h4 (fun b hb => hm b (h5 b hb).1 (own_lt h4 b hb)), h5⟩
theorem IsDec.below (h : IsDec g base kept at_ closed ok w) (hb : Below w.heap.size w w1) : IsDec g base kept at_ closed ok w1 := h.step (fun k _ hlt => hb.block k hlt)
theorem IsDec.lower {base' : Nat} (h : IsDec g base kept at_ closed ok w) (hb : base' ≤ base) : IsDec g base' kept at_ closed ok w := by
  obtain ⟨kv, h1, h2, h3, h4, h5⟩ := h; exact ⟨kv, h1, Nat.le_trans hb h2, h3, own_weaken h4 hb, h5⟩
theorem IsDec.lt (h : IsDec g base kept at_ closed ok w) : g < w.heap.size ∧ base ≤ g ∧ ok g := by
  obtain ⟨kv, h1, h2, h3, _⟩ := h; exact ⟨blk_lt h1, h2, h3⟩
end
def NewPost (w : World) (e : Ending) (w' : World) : Prop := ∃ g, e = .returned (.pointer (some ⟨g, 0, none⟩)) ∧ w.heap.size ≤ g ∧ IsDec g w.heap.size [] 0 false (fun b => b = g) w' ∧ Below w.heap.size w w'
set_option maxHeartbeats 1000000 in
theorem New (w : World) : Calls Tryd.prog 42 #[] w (NewPost w) := by
  have hfin : NewPost w (.returned (.pointer (some ⟨w.heap.size, 0, none⟩))) (w.alloc (.cells #[.slice none 0 0, .int .i64 0, .bool false] TD)) :=
    ⟨w.heap.size, rfl, Nat.le_refl _, ⟨.slice none 0 0, heap_alloc_new w _, Nat.le_refl _, rfl, own_nil _ _ _ _, by simp [Value.ownBlock]⟩, below_alloc (Below.refl _ _) _⟩
  go_enter Tryd.func42, Tryd.ntmps42; go_wp2; go_ret; exact hfin
def ClosePost (w : World) (g base : Nat) (kept : List Int) (at_ : Int) (ok : Nat → Prop) (e : Ending) (w' : World) : Prop :=
  ∃ lv, e = .returned lv ∧ Kd.R k103 TP w' w.heap.size (fun _ => True) lv (rest1 kept at_) ∧ IsDec g base [] at_ true (fun b => b = g) w' ∧ Chg (fun b => b = g) w w'
set_option maxHeartbeats 2000000 in
theorem Close (w : World) (g base : Nat) (kept : List Int) (at_ : Int) (ok : Nat → Prop) (h : IsDec g base kept at_ false ok w) :
    Calls Tryd.prog 50 #[.pointer (some ⟨g, 0, none⟩)] w (ClosePost w g base kept at_ ok) := by
  obtain ⟨kv, h1, h2, h3, h4, h5⟩ := h; (have c0 : w.cell? ⟨g, 0, none⟩ = some kv := by simp [World.cell?, h1]); (have c1 : w.cell? ⟨g, 1, none⟩ = some (.int .i64 at_) := by simp [World.cell?, h1]); (have c2 : w.cell? ⟨g, 2, none⟩ = some (.bool false) := by simp [World.cell?, h1]); (have f0 : w.frozen? ⟨g, 0, none⟩ = false := by simp [World.frozen?, h1]); (have f2 : w.frozen? ⟨g, 2, none⟩ = false := by simp [World.frozen?, h1]); obtain ⟨A, c, rfl, hr⟩ := own_reads h4; have hm := hr.2.1; have hl := blk_lt h1; obtain ⟨W, hW⟩ : ∃ W, W = (w.setCell ⟨g, 2, none⟩ (.bool true)).setCell ⟨g, 0, none⟩ (.slice none 0 0) := ⟨_, rfl⟩
  have hWg : W.heap[g]? = some (.cells #[.slice none 0 0, .int .i64 at_, .bool true] TD (0, 0)) := by
    have := blk_set (blk_set h1 2 (.bool true)) 0 (.slice none 0 0); rw [hW]; simpa using this
  (have hch : Chg (fun b => b = g) w W := by rw [hW]; exact ((Chg.refl (fun b => b = g) w).setCell (p := ⟨g, 2, none⟩) (.inl rfl) _).setCell (p := ⟨g, 0, none⟩) (.inl rfl) _); have hdec : IsDec g base [] at_ true (fun b => b = g) W := ⟨_, hWg, h2, rfl, own_nil _ _ _ _, by simp [Value.ownBlock]⟩; (have hsz : W.heap.size = w.heap.size := by rw [hW]; simp [World.setCell]); by_cases h0 : kept.length = 0
  · have hk : kept = [] := List.eq_nil_of_length_eq_zero h0; have hfin : ClosePost w g base kept at_ ok (.returned (.slice none 0 0)) W := ⟨_, rfl, by rw [hk]; exact Kd.R_nil _ _ _ _ _, hdec, hch⟩; rw [hW] at hfin; subst hk; clear h1 h2 h3 h4 h5 hr hW hWg hch hdec hsz h0; go_enter Tryd.func50, Tryd.ntmps50; go_wp2; go_ret; exact hfin
  · have hb : ((kept.length : Int) == 0) = false := by simpa using h0
    have hfin : ClosePost w g base kept at_ ok (.returned (.slice (some ⟨w.heap.size, 0, none⟩) 1 1)) (W.alloc (.cells #[.int .i32 65533, .int .i64 at_, .int .i64 kept.length] TP)) := by
      refine ⟨_, rfl, ?_, hdec.below (below_alloc (Below.refl _ _) _), hch.alloc _⟩; (have e : rest1 kept at_ = [(⟨65533, at_, kept.length⟩ : S103)] := by unfold rest1; rw [if_neg (fun hk => h0 (by rw [hk]; rfl))]); rw [e]; refine ⟨fun _ _ => trivial, [.int .i32 65533, .int .i64 at_, .int .i64 kept.length], ⟨rfl, .inr ⟨w.heap.size, 1, #[.int .i32 65533, .int .i64 at_, .int .i64 kept.length], rfl, Nat.le_refl _, ?_, Nat.le_refl _, by simp [maxLen], rfl, rfl⟩⟩, ?_⟩
      · rw [← hsz]; exact heap_alloc_new W _
      · refine ⟨rfl, fun j p hj => ?_⟩
        match j, hj with
        | 0, hj => cases hj; exact k103_mkM _ _ _ _
        | j + 1, hj => simp at hj
    rw [hW] at hfin; clear h1 h2 h3 h4 h5 hr hW hWg hch hdec hsz h0; go_enter Tryd.func50, Tryd.ntmps50; go_wp2; go_ret; exact hfin
end Go.Proofs.YthffpkdadffinaaDoor.Ud
