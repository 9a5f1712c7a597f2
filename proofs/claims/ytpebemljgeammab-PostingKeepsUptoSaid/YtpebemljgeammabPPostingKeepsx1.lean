-- PRINTED BY print.sh 35421559b90ae4d0a3588c463048766b98c2df88dd9212a6774a882060cdf62d: not written by this session
import Derived.Test.YtpebemljgeammabPPostingKeepsx0
namespace Go.Proofs.Ytpebemljgeammab.PPostingKeeps
open Go.RowKit Go.Proofs.YtpebemljgeammabW.PrintWords Go.Proofs.YtpebemljgeammabW.PrintLast Go.Proofs.YtpebemljgeammabW.PrintMore
attribute [local go_sem] max2_int min2_int max_two min_two max_three min_three max_four min_four   -- for this text's walks alone
set_option linter.unusedVariables false
set_option linter.unusedSimpArgs false

/-! ### posting_May: function 13 -/
mutual
def posting_May.l0 : Nat → Int → List (S42) → Int → Int → Option (Bool)
  | 0, _, _, _, _ => none
  | k + 1, x3, x9, x10, x11 => if x11 < x10 then (if 0 ≤ x11 then (if x11 < (x9.length : Int) then (if ((rd_T42 x9 x11).f0) ≤ x3 then (posting_May.j1 k x9 x10 x11 true ((rd_T42 x9 x11).f0) ((rd_T42 x9 x11).f1)) else (if ((rd_T42 x9 x11).f0) > 2147483647 then (posting_May.j1 k x9 x10 x11 true ((rd_T42 x9 x11).f0) ((rd_T42 x9 x11).f1)) else (posting_May.j1 k x9 x10 x11 ((((rd_T42 x9 x11).f1).length : Int) == 0) ((rd_T42 x9 x11).f0) ((rd_T42 x9 x11).f1)))) else (none)) else (none)) else (some true)
def posting_May.j1 : Nat → List (S42) → Int → Int → Bool → Int → List Int → Option (Bool)
  | 0, _, _, _, _, _, _ => none
  | k + 1, x9, x10, x11, x29, x103000, x103001 => if x29 = true then (some false) else (posting_May.l1 k x103000 (-1) x9 x10 x11 x103001 (x103001.length : Int) 0)
def posting_May.l1 : Nat → Int → Int → List (S42) → Int → Int → List Int → Int → Int → Option (Bool)
  | 0, _, _, _, _, _, _, _, _ => none
  | k + 1, x3, x6, x9, x10, x11, x33, x34, x35 => if x35 < x34 then (if 0 ≤ x35 then (if x35 < (x33.length : Int) then (if (rd x33 x35) ≤ x6 then (some false) else (if (rd x33 x35) > 2147483647 then (some false) else (posting_May.l1 k x3 (rd x33 x35) x9 x10 x11 x33 x34 (wrap64 (x35 + 1))))) else (none)) else (none)) else (posting_May.l0 k x3 x9 x10 (wrap64 (x11 + 1)))
end
def posting_May.f (k : Nat) (l0 : List (S42)) : Option (Bool) := posting_May.l0 k (-1) l0 (l0.length : Int) 0
theorem posting_May.mono_l : ∀ k, (∀ y0 y1 y2 y3, LeO (posting_May.l0 k y0 y1 y2 y3) (posting_May.l0 (k + 1) y0 y1 y2 y3)) ∧ (∀ y0 y1 y2 y3 y4 y5, LeO (posting_May.j1 k y0 y1 y2 y3 y4 y5) (posting_May.j1 (k + 1) y0 y1 y2 y3 y4 y5)) ∧ (∀ y0 y1 y2 y3 y4 y5 y6 y7, LeO (posting_May.l1 k y0 y1 y2 y3 y4 y5 y6 y7) (posting_May.l1 (k + 1) y0 y1 y2 y3 y4 y5 y6 y7))
  | 0 => ⟨fun _ _ _ _ r h => by simp [posting_May.l0] at h, fun _ _ _ _ _ _ r h => by simp [posting_May.j1] at h, fun _ _ _ _ _ _ _ _ r h => by simp [posting_May.l1] at h⟩
  | k + 1 => by
    obtain ⟨ih0, ih1, ih2⟩ := posting_May.mono_l k
    refine ⟨?_, ?_, ?_⟩
    · intro y0 y1 y2 y3
      unfold posting_May.l0
      repeat' first
      | (with_reducible exact ih0 _ _ _ _)
      | (with_reducible exact ih1 _ _ _ _ _ _)
      | (with_reducible exact ih2 _ _ _ _ _ _ _ _)
      | (with_reducible exact LeO.refl _)
      | (with_reducible exact LeO.none _)
      | (with_reducible refine LeO.ite ?_ ?_)
      | (with_reducible refine LeO.bind ?_ (fun _ => ?_))
      | exact ih0 _ _ _ _
      | exact ih1 _ _ _ _ _ _
      | exact ih2 _ _ _ _ _ _ _ _
      | exact LeO.none _
      | refine LeO.ite ?_ ?_
      | refine LeO.bind ?_ (fun _ => ?_)
    · intro y0 y1 y2 y3 y4 y5
      unfold posting_May.j1
      repeat' first
      | (with_reducible exact ih0 _ _ _ _)
      | (with_reducible exact ih1 _ _ _ _ _ _)
      | (with_reducible exact ih2 _ _ _ _ _ _ _ _)
      | (with_reducible exact LeO.refl _)
      | (with_reducible exact LeO.none _)
      | (with_reducible refine LeO.ite ?_ ?_)
      | (with_reducible refine LeO.bind ?_ (fun _ => ?_))
      | exact ih0 _ _ _ _
      | exact ih1 _ _ _ _ _ _
      | exact ih2 _ _ _ _ _ _ _ _
      | exact LeO.none _
      | refine LeO.ite ?_ ?_
      | refine LeO.bind ?_ (fun _ => ?_)
    · intro y0 y1 y2 y3 y4 y5 y6 y7
      unfold posting_May.l1
      repeat' first
      | (with_reducible exact ih0 _ _ _ _)
      | (with_reducible exact ih1 _ _ _ _ _ _)
      | (with_reducible exact ih2 _ _ _ _ _ _ _ _)
      | (with_reducible exact LeO.refl _)
      | (with_reducible exact LeO.none _)
      | (with_reducible refine LeO.ite ?_ ?_)
      | (with_reducible refine LeO.bind ?_ (fun _ => ?_))
      | exact ih0 _ _ _ _
      | exact ih1 _ _ _ _ _ _
      | exact ih2 _ _ _ _ _ _ _ _
      | exact LeO.none _
      | refine LeO.ite ?_ ?_
      | refine LeO.bind ?_ (fun _ => ?_)
theorem posting_May.mono : ∀ a0 k, LeO (posting_May.f k a0) (posting_May.f (k + 1) a0) := by
  intro a0 k
  obtain ⟨ih0, ih1, ih2⟩ := posting_May.mono_l k
  unfold posting_May.f
  repeat' first
      | (with_reducible exact ih0 _ _ _ _)
      | (with_reducible exact ih1 _ _ _ _ _ _)
      | (with_reducible exact ih2 _ _ _ _ _ _ _ _)
      | (with_reducible exact LeO.refl _)
      | (with_reducible exact LeO.none _)
      | (with_reducible refine LeO.ite ?_ ?_)
      | (with_reducible refine LeO.bind ?_ (fun _ => ?_))
      | exact ih0 _ _ _ _
      | exact ih1 _ _ _ _ _ _
      | exact ih2 _ _ _ _ _ _ _ _
      | exact LeO.none _
      | refine LeO.ite ?_ ?_
      | refine LeO.bind ?_ (fun _ => ?_)
set_option maxHeartbeats 8000000 in
set_option maxRecDepth 100000 in
theorem posting_May.calls (k : Nat) (A0 : Option Addr) (c0 : Nat) (l0 : List (S42)) (r : Bool) (w : World) (hr0 : Kd.C k42 w A0 l0.length l0) (hc0 : l0.length ≤ c0) (h : posting_May.f k l0 = some r) :
    Calls Try.prog 13 #[.slice A0 l0.length c0] w fun e w' => e = .returned (.bool r) ∧ Below w.heap.size w w' := by
  have hu42 := Try.underlying42
  have HR0 := Aside0.mk hr0
  have HC0 := Aside0.mk hc0
  clear hr0 hc0
  have HB := Aside0.mk (Below.refl w.heap.size w)
  have H : (posting_May.l0 k (-1) l0 (l0.length : Int) 0) = some r := h
  clear h
  have H' := Aside0.mk H
  clear H
  go_enter Try.func13, Try.ntmps13
  go_wp2
  go_loopg [3, 11] k (fun kq v3 v11 w' => ∃ (x3_1 : Int) (x11_1 : Int), v3 = .int .i64 x3_1 ∧ v11 = .int .i64 x11_1 ∧ Aside0 (posting_May.l0 kq x3_1 l0 (l0.length : Int) x11_1 = some r) ∧ Aside0 (kq ≤ k) ∧ Aside0 (Below w.heap.size w w'))
  case atStart => exact ⟨((-1)), (0), (by first | rfl | (simp; done) | (simp [*]; done)), (by first | rfl | (simp; done) | (simp [*]; done)), H', ⟨Nat.le_refl _⟩, ⟨by repeat (first | (with_reducible first | exact HB.out | apply below_alloc | apply pw_below_drewN | apply below_drew1) | exact HB.out)⟩⟩
  case round =>
    clear H'
    try clear c1
    obtain ⟨x3_1, x11_1, rfl, rfl, HA, HK1, HB⟩ := hrel
    cases gk with
    | zero => exact absurd HA.out (by simp [posting_May.l0])
    | succ k1 =>
      have H := HA.out
      clear HA
      simp only [posting_May.l0] at H
      by_cases c2 : x11_1 < (l0.length : Int)
      · rw [if_pos c2] at H
        have c2b0 : decide (x11_1 < (l0.length : Int)) = true := decide_eq_true c2
        clear c2
        by_cases c3 : 0 ≤ x11_1
        · rw [if_pos c3] at H
          have c3b0 : decide (0 ≤ x11_1) = true := decide_eq_true c3
          clear c3
          by_cases c4 : x11_1 < (l0.length : Int)
          · rw [if_pos c4] at H
            have c4b0 : decide (x11_1 < (l0.length : Int)) = true := decide_eq_true c4
            clear c4
            have HC5 := Aside0.mk H
            clear H
            have p101 : 0 ≤ (x11_1 : Int) := of_decide_eq_true (by first | (with_reducible assumption) | assumption)
            have q101 : x11_1 < (l0.length : Int) := of_decide_eq_true (by first | (with_reducible assumption) | assumption)
            obtain ⟨ad101, A101_1, c101_1, e101, hx101_0, hx101_1, hl101_1, hi101_1⟩ := at_T42 HR0.out x11_1 p101 q101
            cases e101
            replace hx101_0 := (HB.out.cell (World.block_lt_of_cell? w _ hx101_0)).trans hx101_0
            replace hx101_1 := (HB.out.cell (World.block_lt_of_cell? w _ hx101_1)).trans hx101_1
            have HR101_1 := Aside0.mk hi101_1
            have HC101_1 := Aside0.mk hl101_1
            clear hi101_1 hl101_1
            replace p101 := eq_true p101
            replace q101 := eq_true q101
            go_upto_region 5 with (first | ((with_reducible refine gate_dst (N := 5) rfl ?_); (try (refine gate_guard (by rfl) ?_; dsimp only)); refine box_event ?hg (N := 5) ?hd (cs := #[.int .i64 0, .slice none 0 0]) (t := 42) ?hr ?_; (case hd => rfl); (case hg => rfl); (case hr => first | (go_simp; done) | (go_simp; rfl)); intro gb102 hg w6 hbox hb; have n0_ := Aside0.mk (below_step (by repeat (first | (with_reducible first | exact HB.out | apply below_alloc | apply pw_below_drewN | apply below_drew1) | exact HB.out)) hb); have n1_ := Aside0.mk (hbox); have n2_ := Aside0.mk ((by rw [hg]; exact (below_size (by repeat (first | (with_reducible first | exact HB.out | apply below_alloc | apply pw_below_drewN | apply below_drew1) | exact HB.out))) : w.heap.size ≤ gb102)); have n3_ := Aside0.mk ((by rw [hg]; exact (below_size (by repeat (first | (with_reducible first | exact HB.out | apply below_alloc | apply pw_below_drewN | apply below_drew1) | exact HB.out))) : w.heap.size ≤ gb102)); clear HB; have HB := n0_; have BK102 := n1_; have GW102 := n2_; have GE102 := n3_; clear n0_ n1_ n2_ n3_; clear hb hbox hg; have hcz7_0 : w6.cell? ⟨gb102, 0, none⟩ = some (.int .i64 0) := (blk_cell BK102.out 0).trans rfl; have hcz7_1 : w6.cell? ⟨gb102, 1, none⟩ = some (.slice none 0 0) := (blk_cell BK102.out 1).trans rfl; have hfz7_0 := blk_frozen BK102.out 0; have hfz7_1 := blk_frozen BK102.out 1))
            (try simp only [Act.put, List.setIfInBounds_toArray, List.set_cons_zero, List.set_cons_succ])
            go_cut [29] (fun v29 wc => ∃ (kq : Nat) (x29_4 : Bool), v29 = .bool x29_4 ∧ Aside0 (posting_May.j1 kq l0 (l0.length : Int) x11_1 x29_4 ((rd_T42 l0 x11_1).f0) ((rd_T42 l0 x11_1).f1) = some r) ∧ Aside0 (kq ≤ k1) ∧ Aside0 (wc.heap[gb102]? = some (.cells #[.int .i64 ((rd_T42 l0 x11_1).f0), (.slice A101_1 ((rd_T42 l0 x11_1).f1).length c101_1)] 42 (0, 0))) ∧ Aside0 (Below w.heap.size w wc))
            case first =>
              have H := HC5.out
              clear HC5
              by_cases c8 : ((rd_T42 l0 x11_1).f0) ≤ x3_1
              · rw [if_pos c8] at H
                have c8b0 : decide (((rd_T42 l0 x11_1).f0) ≤ x3_1) = true := decide_eq_true c8
                clear c8
                (first | rw [c8b0] | (simp only [i64_w, i32_w]; rw [c8b0]) | skip)
                have H' := Aside0.mk H
                clear H
                have hcz9_0 : w6.cell? ⟨gb102, 0, none⟩ = some (.int .i64 0) := (blk_cell BK102.out 0).trans rfl
                have hcz9_1 : w6.cell? ⟨gb102, 1, none⟩ = some (.slice none 0 0) := (blk_cell BK102.out 1).trans rfl
                have hfz9_0 := blk_frozen BK102.out 0
                have hfz9_1 := blk_frozen BK102.out 1
                go_wp2
                go_meet
                case rel => exact ⟨_, (true), (by first | rfl | (simp; done) | (simp [*]; done)), H', ⟨by have := HK1.out; first | omega | exact Nat.le_refl _⟩, ⟨by (with_reducible repeat (first | refine blk_drewN ?_ _ | refine blk_drew ?_ | refine blk_alloc ?_ _)); refine blk_put (cs := #[.int .i64 ((rd_T42 l0 x11_1).f0), .slice none 0 0]) ?_ 1 _ rfl; (with_reducible repeat (first | refine blk_drewN ?_ _ | refine blk_drew ?_ | refine blk_alloc ?_ _)); refine blk_put (cs := #[.int .i64 0, .slice none 0 0]) ?_ 0 _ rfl; (with_reducible repeat (first | refine blk_drewN ?_ _ | refine blk_drew ?_ | refine blk_alloc ?_ _)); exact BK102.out⟩, ⟨by repeat (first | (with_reducible first | exact HB.out | apply below_alloc | apply pw_below_drewN | apply below_drew1 | refine below_set ?_ GE102.out) | exact HB.out)⟩⟩
              · rw [if_neg c8] at H
                have c8b0 : decide (((rd_T42 l0 x11_1).f0) ≤ x3_1) = false := decide_eq_false c8
                clear c8
                (first | rw [c8b0] | (simp only [i64_w, i32_w]; rw [c8b0]) | skip)
                by_cases c10 : ((rd_T42 l0 x11_1).f0) > 2147483647
                · rw [if_pos c10] at H
                  have c10b0 : decide (2147483647 < ((rd_T42 l0 x11_1).f0)) = true := decide_eq_true c10
                  clear c10
                  have H' := Aside0.mk H
                  clear H
                  have hcz11_0 : w6.cell? ⟨gb102, 0, none⟩ = some (.int .i64 0) := (blk_cell BK102.out 0).trans rfl
                  have hcz11_1 : w6.cell? ⟨gb102, 1, none⟩ = some (.slice none 0 0) := (blk_cell BK102.out 1).trans rfl
                  have hfz11_0 := blk_frozen BK102.out 0
                  have hfz11_1 := blk_frozen BK102.out 1
                  go_wp2
                  go_meet
                  case rel => exact ⟨_, (true), (by first | rfl | (simp; done) | (simp [*]; done)), H', ⟨by have := HK1.out; first | omega | exact Nat.le_refl _⟩, ⟨by (with_reducible repeat (first | refine blk_drewN ?_ _ | refine blk_drew ?_ | refine blk_alloc ?_ _)); refine blk_put (cs := #[.int .i64 ((rd_T42 l0 x11_1).f0), .slice none 0 0]) ?_ 1 _ rfl; (with_reducible repeat (first | refine blk_drewN ?_ _ | refine blk_drew ?_ | refine blk_alloc ?_ _)); refine blk_put (cs := #[.int .i64 0, .slice none 0 0]) ?_ 0 _ rfl; (with_reducible repeat (first | refine blk_drewN ?_ _ | refine blk_drew ?_ | refine blk_alloc ?_ _)); exact BK102.out⟩, ⟨by repeat (first | (with_reducible first | exact HB.out | apply below_alloc | apply pw_below_drewN | apply below_drew1 | refine below_set ?_ GE102.out) | exact HB.out)⟩⟩
                · rw [if_neg c10] at H
                  have c10b0 : decide (2147483647 < ((rd_T42 l0 x11_1).f0)) = false := decide_eq_false c10
                  clear c10
                  have H' := Aside0.mk H
                  clear H
                  have hcz12_0 : w6.cell? ⟨gb102, 0, none⟩ = some (.int .i64 0) := (blk_cell BK102.out 0).trans rfl
                  have hcz12_1 : w6.cell? ⟨gb102, 1, none⟩ = some (.slice none 0 0) := (blk_cell BK102.out 1).trans rfl
                  have hfz12_0 := blk_frozen BK102.out 0
                  have hfz12_1 := blk_frozen BK102.out 1
                  go_wp2
                  go_meet
                  case rel => exact ⟨_, (((((rd_T42 l0 x11_1).f1).length : Int) == 0)), (by first | rfl | (simp; done) | (simp [*]; done)), H', ⟨by have := HK1.out; first | omega | exact Nat.le_refl _⟩, ⟨by (with_reducible repeat (first | refine blk_drewN ?_ _ | refine blk_drew ?_ | refine blk_alloc ?_ _)); refine blk_put (cs := #[.int .i64 ((rd_T42 l0 x11_1).f0), .slice none 0 0]) ?_ 1 _ rfl; (with_reducible repeat (first | refine blk_drewN ?_ _ | refine blk_drew ?_ | refine blk_alloc ?_ _)); refine blk_put (cs := #[.int .i64 0, .slice none 0 0]) ?_ 0 _ rfl; (with_reducible repeat (first | refine blk_drewN ?_ _ | refine blk_drew ?_ | refine blk_alloc ?_ _)); exact BK102.out⟩, ⟨by repeat (first | (with_reducible first | exact HB.out | apply below_alloc | apply pw_below_drewN | apply below_drew1 | refine below_set ?_ GE102.out) | exact HB.out)⟩⟩
            case rest =>
              clear HC5
              try clear c1
              try clear p1
              try clear q1
              try clear hx1
              try clear c2
              try clear c2b0
              try clear p2
              try clear c3
              try clear c3b0
              try clear c4
              try clear c4b0
              try clear c8
              try clear c8b0
              try clear c10
              try clear c10b0
              try clear p10
              try clear q10
              try clear hx10
              try clear hcz11_0
              try clear hcz11_1
              try clear hcz12_0
              try clear hcz12_1
              try clear hcz7_0
              try clear hcz7_1
              try clear hcz9_0
              try clear hcz9_1
              try clear hfz11_0
              try clear hfz11_1
              try clear hfz12_0
              try clear hfz12_1
              try clear hfz7_0
              try clear hfz7_1
              try clear hfz9_0
              try clear hfz9_1
              try clear hx101_0
              try clear hx101_1
              try clear p101
              try clear q101
              obtain ⟨kq, x29_4, rfl, HA, HJ4, BK102, HB⟩ := hcut
              cases kq with
              | zero => exact absurd HA.out (by simp [posting_May.j1])
              | succ kj4 =>
                have H := HA.out
                clear HA
                simp only [posting_May.j1] at H
                by_cases c13 : x29_4 = true
                · subst c13
                  have H1 : (some false) = some r := by rw [if_pos rfl] at H; exact H
                  clear H
                  have H := H1
                  clear H1
                  obtain rfl := Option.some.inj H
                  go_wp2
                  go_ret
                  exact ⟨by first | rfl | (simp [errW_none, errW_some] <;> rfl) | (simp [*, errW_none, errW_some] <;> rfl), by repeat (first | (with_reducible first | exact HB.out | apply below_alloc | apply pw_below_drewN | apply below_drew1 | refine below_set ?_ GE102.out) | exact HB.out)⟩
                · replace c13 := Bool.eq_false_iff.mpr c13
                  subst c13
                  have H1 : (posting_May.l1 kj4 ((rd_T42 l0 x11_1).f0) (-1) l0 (l0.length : Int) x11_1 ((rd_T42 l0 x11_1).f1) (((rd_T42 l0 x11_1).f1).length : Int) 0) = some r := by rw [if_neg (show ¬ (false = true) by decide)] at H; exact H
                  clear H
                  have H := H1
                  clear H1
                  have H' := Aside0.mk H
                  clear H
                  have hcz14_0 : wc.cell? ⟨gb102, 0, none⟩ = some (.int .i64 ((rd_T42 l0 x11_1).f0)) := (blk_cell BK102.out 0).trans rfl
                  have hcz14_1 : wc.cell? ⟨gb102, 1, none⟩ = some (.slice A101_1 ((rd_T42 l0 x11_1).f1).length c101_1) := (blk_cell BK102.out 1).trans rfl
                  have hfz14_0 := blk_frozen BK102.out 0
                  have hfz14_1 := blk_frozen BK102.out 1
                  go_wp2
                  go_loopg [6, 35] kj4 (fun kq v6 v35 w' => ∃ (x6_3 : Int) (x35_3 : Int), v6 = .int .i64 x6_3 ∧ v35 = .int .i64 x35_3 ∧ Aside0 (posting_May.l1 kq ((rd_T42 l0 x11_1).f0) x6_3 l0 (l0.length : Int) x11_1 ((rd_T42 l0 x11_1).f1) (((rd_T42 l0 x11_1).f1).length : Int) x35_3 = some r) ∧ Aside0 (kq ≤ kj4) ∧ Aside0 (w'.heap[gb102]? = some (.cells #[.int .i64 ((rd_T42 l0 x11_1).f0), (.slice A101_1 ((rd_T42 l0 x11_1).f1).length c101_1)] 42 (0, 0))) ∧ Aside0 (Below w.heap.size w w'))
                  case atStart => exact ⟨((-1)), (0), (by first | rfl | (simp; done) | (simp [*]; done)), (by first | rfl | (simp; done) | (simp [*]; done)), H', ⟨Nat.le_refl _⟩, ⟨by (with_reducible repeat (first | refine blk_drewN ?_ _ | refine blk_drew ?_ | refine blk_alloc ?_ _)); exact BK102.out⟩, ⟨by repeat (first | (with_reducible first | exact HB.out | apply below_alloc | apply pw_below_drewN | apply below_drew1 | refine below_set ?_ GE102.out) | exact HB.out)⟩⟩
                  case round =>
                    clear H'
                    try clear c1
                    try clear p1
                    try clear q1
                    try clear hx1
                    try clear c2
                    try clear c2b0
                    try clear p2
                    try clear c3
                    try clear c3b0
                    try clear c4
                    try clear c4b0
                    try clear c8
                    try clear c8b0
                    try clear c10
                    try clear c10b0
                    try clear p10
                    try clear q10
                    try clear hx10
                    try clear c13
                    try clear hcz11_0
                    try clear hcz11_1
                    try clear hcz12_0
                    try clear hcz12_1
                    try clear hcz14_0
                    try clear hcz14_1
                    try clear hcz7_0
                    try clear hcz7_1
                    try clear hcz9_0
                    try clear hcz9_1
                    try clear hfz11_0
                    try clear hfz11_1
                    try clear hfz12_0
                    try clear hfz12_1
                    try clear hfz14_0
                    try clear hfz14_1
                    try clear hfz7_0
                    try clear hfz7_1
                    try clear hfz9_0
                    try clear hfz9_1
                    try clear hx101_0
                    try clear hx101_1
                    try clear p1
                    try clear p10
                    try clear p101
                    try clear p2
                    try clear q1
                    try clear q10
                    try clear q101
                    obtain ⟨x6_3, x35_3, rfl, rfl, HA, HK3, BK102, HB⟩ := hrel
                    cases gk with
                    | zero => exact absurd HA.out (by simp [posting_May.l1])
                    | succ k3 =>
                      have H := HA.out
                      clear HA
                      simp only [posting_May.l1] at H
                      by_cases c15 : x35_3 < (((rd_T42 l0 x11_1).f1).length : Int)
                      · rw [if_pos c15] at H
                        have c15b0 : decide (x35_3 < (((rd_T42 l0 x11_1).f1).length : Int)) = true := decide_eq_true c15
                        clear c15
                        by_cases c16 : 0 ≤ x35_3
                        · rw [if_pos c16] at H
                          have c16b0 : decide (0 ≤ x35_3) = true := decide_eq_true c16
                          clear c16
                          by_cases c17 : x35_3 < (((rd_T42 l0 x11_1).f1).length : Int)
                          · rw [if_pos c17] at H
                            have c17b0 : decide (x35_3 < (((rd_T42 l0 x11_1).f1).length : Int)) = true := decide_eq_true c17
                            clear c17
                            by_cases c18 : (rd ((rd_T42 l0 x11_1).f1) x35_3) ≤ x6_3
                            · rw [if_pos c18] at H
                              have c18b0 : decide ((rd ((rd_T42 l0 x11_1).f1) x35_3) ≤ x6_3) = true := decide_eq_true c18
                              clear c18
                              obtain rfl := Option.some.inj H
                              have p103 : 0 ≤ (x35_3 : Int) := of_decide_eq_true (by first | (with_reducible assumption) | assumption)
                              have q103 : x35_3 < (((rd_T42 l0 x11_1).f1).length : Int) := of_decide_eq_true (by first | (with_reducible assumption) | assumption)
                              obtain ⟨ad103, e103, hx103_0⟩ := Kd.at_int HR101_1.out x35_3 p103 q103
                              cases e103
                              replace hx103_0 := (HB.out.cell (World.block_lt_of_cell? w _ hx103_0)).trans hx103_0
                              replace p103 := eq_true p103
                              replace q103 := eq_true q103
                              go_wp2
                              go_ret
                              exact ⟨by first | rfl | (simp [errW_none, errW_some] <;> rfl) | (simp [*, errW_none, errW_some] <;> rfl), by repeat (first | (with_reducible first | exact HB.out | apply below_alloc | apply pw_below_drewN | apply below_drew1 | refine below_set ?_ GE102.out) | exact HB.out)⟩
                            · rw [if_neg c18] at H
                              have c18b0 : decide ((rd ((rd_T42 l0 x11_1).f1) x35_3) ≤ x6_3) = false := decide_eq_false c18
                              clear c18
                              by_cases c19 : (rd ((rd_T42 l0 x11_1).f1) x35_3) > 2147483647
                              · rw [if_pos c19] at H
                                have c19b0 : decide (2147483647 < (rd ((rd_T42 l0 x11_1).f1) x35_3)) = true := decide_eq_true c19
                                clear c19
                                obtain rfl := Option.some.inj H
                                have p103 : 0 ≤ (x35_3 : Int) := of_decide_eq_true (by first | (with_reducible assumption) | assumption)
                                have q103 : x35_3 < (((rd_T42 l0 x11_1).f1).length : Int) := of_decide_eq_true (by first | (with_reducible assumption) | assumption)
                                obtain ⟨ad103, e103, hx103_0⟩ := Kd.at_int HR101_1.out x35_3 p103 q103
                                cases e103
                                replace hx103_0 := (HB.out.cell (World.block_lt_of_cell? w _ hx103_0)).trans hx103_0
                                replace p103 := eq_true p103
                                replace q103 := eq_true q103
                                go_wp2
                                go_ret
                                exact ⟨by first | rfl | (simp [errW_none, errW_some] <;> rfl) | (simp [*, errW_none, errW_some] <;> rfl), by repeat (first | (with_reducible first | exact HB.out | apply below_alloc | apply pw_below_drewN | apply below_drew1 | refine below_set ?_ GE102.out) | exact HB.out)⟩
                              · rw [if_neg c19] at H
                                have c19b0 : decide (2147483647 < (rd ((rd_T42 l0 x11_1).f1) x35_3)) = false := decide_eq_false c19
                                clear c19
                                have H' := Aside0.mk H
                                clear H
                                have p103 : 0 ≤ (x35_3 : Int) := of_decide_eq_true (by first | (with_reducible assumption) | assumption)
                                have q103 : x35_3 < (((rd_T42 l0 x11_1).f1).length : Int) := of_decide_eq_true (by first | (with_reducible assumption) | assumption)
                                obtain ⟨ad103, e103, hx103_0⟩ := Kd.at_int HR101_1.out x35_3 p103 q103
                                cases e103
                                replace hx103_0 := (HB.out.cell (World.block_lt_of_cell? w _ hx103_0)).trans hx103_0
                                replace p103 := eq_true p103
                                replace q103 := eq_true q103
                                go_wp2
                                go_roundg k3
                                case measure => have := HK1.out; have := HJ4.out; have := HK3.out; omega
                                case rel => exact ⟨(rd ((rd_T42 l0 x11_1).f1) x35_3), (wrap64 (x35_3 + 1)), (by first | rfl | (simp; done) | (simp [*]; done)), (by first | rfl | (simp; done) | (simp [*]; done)), H', ⟨by have := HK1.out; have := HJ4.out; have := HK3.out; omega⟩, ⟨by (with_reducible repeat (first | refine blk_drewN ?_ _ | refine blk_drew ?_ | refine blk_alloc ?_ _)); exact BK102.out⟩, ⟨by repeat (first | (with_reducible first | exact HB.out | apply below_alloc | apply pw_below_drewN | apply below_drew1 | refine below_set ?_ GE102.out) | exact HB.out)⟩⟩
                          · rw [if_neg c17] at H
                            exact absurd H (by simp)
                        · rw [if_neg c16] at H
                          exact absurd H (by simp)
                      · rw [if_neg c15] at H
                        have c15b0 : decide (x35_3 < (((rd_T42 l0 x11_1).f1).length : Int)) = false := decide_eq_false c15
                        clear c15
                        have H' := Aside0.mk H
                        clear H
                        go_wp2
                        go_roundg k3
                        case measure => have := HK1.out; have := HJ4.out; have := HK3.out; omega
                        case rel => exact ⟨(((rd_T42 l0 x11_1).f0)), (wrap64 (x11_1 + 1)), (by first | rfl | (simp; done) | (simp [*]; done)), (by first | rfl | (simp; done) | (simp [*]; done)), H', ⟨by have := HK1.out; have := HJ4.out; have := HK3.out; omega⟩, ⟨by repeat (first | (with_reducible first | exact HB.out | apply below_alloc | apply pw_below_drewN | apply below_drew1 | refine below_set ?_ GE102.out) | exact HB.out)⟩⟩
          · rw [if_neg c4] at H
            exact absurd H (by simp)
        · rw [if_neg c3] at H
          exact absurd H (by simp)
      · rw [if_neg c2] at H
        have c2b0 : decide (x11_1 < (l0.length : Int)) = false := decide_eq_false c2
        clear c2
        obtain rfl := Option.some.inj H
        go_wp2
        go_ret
        exact ⟨by first | rfl | (simp [errW_none, errW_some] <;> rfl) | (simp [*, errW_none, errW_some] <;> rfl), by repeat (first | (with_reducible first | exact HB.out | apply below_alloc | apply pw_below_drewN | apply below_drew1) | exact HB.out)⟩

/-! ### posting_Read: function 15 -/
mutual
def posting_Read.l0 : Nat → Int → List Int → Int → Int → Option (Int × Int)
  | 0, _, _, _, _ => none
  | k + 1, x2, x6, x7, x8 => if x8 < x7 then (if 0 ≤ x8 then (if x8 < (x6.length : Int) then (if x8 = 9 then (if (rd x6 x8) > 1 then (posting_Read.j1 k x2 x8 (rd x6 x8) x6 x7 x8 true) else (posting_Read.j1 k x2 x8 (rd x6 x8) x6 x7 x8 (decide (x8 > 9)))) else (posting_Read.j1 k x2 x8 (rd x6 x8) x6 x7 x8 (decide (x8 > 9)))) else (none)) else (none)) else (some (0, 0))
def posting_Read.j1 : Nat → Int → Int → Int → List Int → Int → Int → Bool → Option (Int × Int)
  | 0, _, _, _, _, _, _, _ => none
  | k + 1, x2, x4, x5, x6, x7, x8, x22 => if x22 = true then (some (0, 0)) else (if 0 ≤ (IntKind.u64.wrap (wrap64 (7 * x4))) then (if x5 < 128 then (if x5 = 0 then (if x4 > 0 then (some (0, 0)) else (some (Go.bits .or .u64 x2 (shl .u64 (IntKind.u64.wrap (Go.bits .and .u8 x5 127)) (IntKind.u64.wrap (wrap64 (7 * x4)))), wrap64 (x4 + 1)))) else (some (Go.bits .or .u64 x2 (shl .u64 (IntKind.u64.wrap (Go.bits .and .u8 x5 127)) (IntKind.u64.wrap (wrap64 (7 * x4)))), wrap64 (x4 + 1)))) else (posting_Read.l0 k (Go.bits .or .u64 x2 (shl .u64 (IntKind.u64.wrap (Go.bits .and .u8 x5 127)) (IntKind.u64.wrap (wrap64 (7 * x4))))) x6 x7 (wrap64 (x8 + 1)))) else (none))
end
def posting_Read.f (k : Nat) (l0 : List Int) : Option (Int × Int) := posting_Read.l0 k 0 l0 (l0.length : Int) 0
theorem posting_Read.mono_l : ∀ k, (∀ y0 y1 y2 y3, LeO (posting_Read.l0 k y0 y1 y2 y3) (posting_Read.l0 (k + 1) y0 y1 y2 y3)) ∧ (∀ y0 y1 y2 y3 y4 y5 y6, LeO (posting_Read.j1 k y0 y1 y2 y3 y4 y5 y6) (posting_Read.j1 (k + 1) y0 y1 y2 y3 y4 y5 y6))
  | 0 => ⟨fun _ _ _ _ r h => by simp [posting_Read.l0] at h, fun _ _ _ _ _ _ _ r h => by simp [posting_Read.j1] at h⟩
  | k + 1 => by
    obtain ⟨ih0, ih1⟩ := posting_Read.mono_l k
    refine ⟨?_, ?_⟩
    · intro y0 y1 y2 y3
      unfold posting_Read.l0
      repeat' first
      | (with_reducible exact ih0 _ _ _ _)
      | (with_reducible exact ih1 _ _ _ _ _ _ _)
      | (with_reducible exact LeO.refl _)
      | (with_reducible exact LeO.none _)
      | (with_reducible refine LeO.ite ?_ ?_)
      | (with_reducible refine LeO.bind ?_ (fun _ => ?_))
      | exact ih0 _ _ _ _
      | exact ih1 _ _ _ _ _ _ _
      | exact LeO.none _
      | refine LeO.ite ?_ ?_
      | refine LeO.bind ?_ (fun _ => ?_)
    · intro y0 y1 y2 y3 y4 y5 y6
      unfold posting_Read.j1
      repeat' first
      | (with_reducible exact ih0 _ _ _ _)
      | (with_reducible exact ih1 _ _ _ _ _ _ _)
      | (with_reducible exact LeO.refl _)
      | (with_reducible exact LeO.none _)
      | (with_reducible refine LeO.ite ?_ ?_)
      | (with_reducible refine LeO.bind ?_ (fun _ => ?_))
      | exact ih0 _ _ _ _
      | exact ih1 _ _ _ _ _ _ _
      | exact LeO.none _
      | refine LeO.ite ?_ ?_
      | refine LeO.bind ?_ (fun _ => ?_)
theorem posting_Read.mono : ∀ a0 k, LeO (posting_Read.f k a0) (posting_Read.f (k + 1) a0) := by
  intro a0 k
  obtain ⟨ih0, ih1⟩ := posting_Read.mono_l k
  unfold posting_Read.f
  repeat' first
      | (with_reducible exact ih0 _ _ _ _)
      | (with_reducible exact ih1 _ _ _ _ _ _ _)
      | (with_reducible exact LeO.refl _)
      | (with_reducible exact LeO.none _)
      | (with_reducible refine LeO.ite ?_ ?_)
      | (with_reducible refine LeO.bind ?_ (fun _ => ?_))
      | exact ih0 _ _ _ _
      | exact ih1 _ _ _ _ _ _ _
      | exact LeO.none _
      | refine LeO.ite ?_ ?_
      | refine LeO.bind ?_ (fun _ => ?_)
set_option maxHeartbeats 8000000 in
set_option maxRecDepth 100000 in
theorem posting_Read.calls (k : Nat) (A0 : Option Addr) (c0 : Nat) (l0 : List Int) (r1 : Int) (r2 : Int) (w : World) (hr0 : Kd.C (Kd.int .u8) w A0 l0.length l0) (hc0 : l0.length ≤ c0) (h : posting_Read.f k l0 = some (r1, r2)) :
    Calls Try.prog 15 #[.slice A0 l0.length c0] w fun e w' => e = .returned (.tuple #[.int .u64 r1, .int .i64 r2]) ∧ Drawn0 w w' := by
  have HR0 := Aside0.mk hr0
  have HC0 := Aside0.mk hc0
  clear hr0 hc0
  have H : (posting_Read.l0 k 0 l0 (l0.length : Int) 0) = some (r1, r2) := h
  clear h
  have H' := Aside0.mk H
  clear H
  go_enter Try.func15, Try.ntmps15
  go_wp2
  go_loopg [2, 8] k (fun kq v2 v8 w' => ∃ (x2_1 : Int) (x8_1 : Int), v2 = .int .u64 x2_1 ∧ v8 = .int .i64 x8_1 ∧ Aside0 (posting_Read.l0 kq x2_1 l0 (l0.length : Int) x8_1 = some (r1, r2)) ∧ Aside0 (kq ≤ k) ∧ Drawn0 w w')
  case atStart => exact ⟨(0), (0), (by first | rfl | (simp; done) | (simp [*]; done)), (by first | rfl | (simp; done) | (simp [*]; done)), H', ⟨Nat.le_refl _⟩, by repeat (first | exact Drawn0.refl _ | apply Drawn0.step)⟩
  case round =>
    clear H'
    try clear c1
    obtain ⟨x2_1, x8_1, rfl, rfl, HA, HK1, ⟨m1, rfl⟩⟩ := hrel
    cases gk with
    | zero => exact absurd HA.out (by simp [posting_Read.l0])
    | succ k1 =>
      have H := HA.out
      clear HA
      simp only [posting_Read.l0] at H
      by_cases c2 : x8_1 < (l0.length : Int)
      · rw [if_pos c2] at H
        have c2b0 : decide (x8_1 < (l0.length : Int)) = true := decide_eq_true c2
        clear c2
        by_cases c3 : 0 ≤ x8_1
        · rw [if_pos c3] at H
          have c3b0 : decide (0 ≤ x8_1) = true := decide_eq_true c3
          clear c3
          by_cases c4 : x8_1 < (l0.length : Int)
          · rw [if_pos c4] at H
            have c4b0 : decide (x8_1 < (l0.length : Int)) = true := decide_eq_true c4
            clear c4
            have HC5 := Aside0.mk H
            clear H
            have p104 : 0 ≤ (x8_1 : Int) := of_decide_eq_true (by first | (with_reducible assumption) | assumption)
            have q104 : x8_1 < (l0.length : Int) := of_decide_eq_true (by first | (with_reducible assumption) | assumption)
            obtain ⟨ad104, e104, hx104_0⟩ := Kd.at_int HR0.out x8_1 p104 q104
            cases e104
            replace p104 := eq_true p104
            replace q104 := eq_true q104
            go_upto_region 4 with (fail)
            go_cut [22] (fun v22 wc => ∃ (kq : Nat) (x22_4 : Bool), v22 = .bool x22_4 ∧ Aside0 (posting_Read.j1 kq x2_1 x8_1 (rd l0 x8_1) l0 (l0.length : Int) x8_1 x22_4 = some (r1, r2)) ∧ Aside0 (kq ≤ k1) ∧ Drawn0 w wc)
            case first =>
              have H := HC5.out
              clear HC5
              by_cases c6 : x8_1 = 9
              · rw [if_pos c6] at H
                have c6b0 : (x8_1 == 9) = true := beq_iff_eq.mpr c6
                have c6b1 : (x8_1 != 9) = false := bne_eq_false_iff_eq.mpr c6
                clear c6
                (first | rw [c6b0] | (simp only [i64_w, i32_w]; rw [c6b0]) | skip)
                by_cases c7 : (rd l0 x8_1) > 1
                · rw [if_pos c7] at H
                  have c7b0 : decide (1 < (rd l0 x8_1)) = true := decide_eq_true c7
                  clear c7
                  have H' := Aside0.mk H
                  clear H
                  go_wp2
                  go_meet
                  case rel => exact ⟨_, (true), (by first | rfl | (simp; done) | (simp [*]; done)), H', ⟨by have := HK1.out; first | omega | exact Nat.le_refl _⟩, by repeat (first | exact Drawn0.refl _ | apply Drawn0.step)⟩
                · rw [if_neg c7] at H
                  have c7b0 : decide (1 < (rd l0 x8_1)) = false := decide_eq_false c7
                  clear c7
                  have H' := Aside0.mk H
                  clear H
                  go_wp2
                  go_meet
                  case rel => exact ⟨_, (decide (x8_1 > 9)), (by first | rfl | (simp; done) | (simp [*]; done)), H', ⟨by have := HK1.out; first | omega | exact Nat.le_refl _⟩, by repeat (first | exact Drawn0.refl _ | apply Drawn0.step)⟩
              · rw [if_neg c6] at H
                have c6b0 : (x8_1 == 9) = false := beq_eq_false_iff_ne.mpr c6
                have c6b1 : (x8_1 != 9) = true := bne_iff_ne.mpr c6
                (first | rw [c6b0] | (simp only [i64_w, i32_w]; rw [c6b0]) | skip)
                have H' := Aside0.mk H
                clear H
                go_wp2
                go_meet
                case rel => exact ⟨_, (decide (x8_1 > 9)), (by first | rfl | (simp; done) | (simp [*]; done)), H', ⟨by have := HK1.out; first | omega | exact Nat.le_refl _⟩, by repeat (first | exact Drawn0.refl _ | apply Drawn0.step)⟩
            case rest =>
              clear HC5
              try clear c1
              try clear p1
              try clear q1
              try clear hx1
              try clear c2
              try clear c2b0
              try clear p2
              try clear c3
              try clear c3b0
              try clear c4
              try clear c4b0
              try clear c6
              try clear c6b0
              try clear c6b1
              try clear c7
              try clear c7b0
              try clear hx104_0
              try clear p104
              try clear q104
              obtain ⟨kq, x22_4, rfl, HA, HJ4, ⟨mc4, rfl⟩⟩ := hcut
              cases kq with
              | zero => exact absurd HA.out (by simp [posting_Read.j1])
              | succ kj4 =>
                have H := HA.out
                clear HA
                simp only [posting_Read.j1] at H
                by_cases c8 : x22_4 = true
                · subst c8
                  have H1 : (some (0, 0)) = some (r1, r2) := by rw [if_pos rfl] at H; exact H
                  clear H
                  have H := H1
                  clear H1
                  simp only [Option.some.injEq, Prod.mk.injEq] at H
                  obtain ⟨rfl, rfl⟩ := H
                  go_wp2
                  go_ret2
                  exact ⟨by first | rfl | (simp; done) | (simp [*]; done), by repeat (first | exact Drawn0.refl _ | apply Drawn0.step)⟩
                · replace c8 := Bool.eq_false_iff.mpr c8
                  subst c8
                  have H1 : (if 0 ≤ (IntKind.u64.wrap (wrap64 (7 * x8_1))) then (if (rd l0 x8_1) < 128 then (if (rd l0 x8_1) = 0 then (if x8_1 > 0 then (some (0, 0)) else (some (Go.bits .or .u64 x2_1 (shl .u64 (IntKind.u64.wrap (Go.bits .and .u8 (rd l0 x8_1) 127)) (IntKind.u64.wrap (wrap64 (7 * x8_1)))), wrap64 (x8_1 + 1)))) else (some (Go.bits .or .u64 x2_1 (shl .u64 (IntKind.u64.wrap (Go.bits .and .u8 (rd l0 x8_1) 127)) (IntKind.u64.wrap (wrap64 (7 * x8_1)))), wrap64 (x8_1 + 1)))) else (posting_Read.l0 kj4 (Go.bits .or .u64 x2_1 (shl .u64 (IntKind.u64.wrap (Go.bits .and .u8 (rd l0 x8_1) 127)) (IntKind.u64.wrap (wrap64 (7 * x8_1))))) l0 (l0.length : Int) (wrap64 (x8_1 + 1)))) else (none)) = some (r1, r2) := by rw [if_neg (show ¬ (false = true) by decide)] at H; exact H
                  clear H
                  have H := H1
                  clear H1
                  obtain ⟨ji9, hji9⟩ : ∃ j_ : Int, (IntKind.u64.wrap (wrap64 (7 * x8_1))) = j_ := ⟨_, rfl⟩
                  replace H : (if 0 ≤ (ji9) then (if (rd l0 x8_1) < 128 then (if (rd l0 x8_1) = 0 then (if x8_1 > 0 then (some (0, 0)) else (some (Go.bits .or .u64 x2_1 (shl .u64 (IntKind.u64.wrap (Go.bits .and .u8 (rd l0 x8_1) 127)) (ji9)), wrap64 (x8_1 + 1)))) else (some (Go.bits .or .u64 x2_1 (shl .u64 (IntKind.u64.wrap (Go.bits .and .u8 (rd l0 x8_1) 127)) (ji9)), wrap64 (x8_1 + 1)))) else (posting_Read.l0 kj4 (Go.bits .or .u64 x2_1 (shl .u64 (IntKind.u64.wrap (Go.bits .and .u8 (rd l0 x8_1) 127)) (ji9))) l0 (l0.length : Int) (wrap64 (x8_1 + 1)))) else (none)) = some (r1, r2) := by first | (rw [hji9] at H; exact H) | (simp only [hji9] at H ⊢; exact H)
                  by_cases c10 : 0 ≤ (ji9)
                  · rw [if_pos c10] at H
                    have c10b0 := eq_true c10
                    have c10b1 : decide (0 ≤ (ji9)) = true := decide_eq_true c10
                    clear c10
                    obtain ⟨ji11, hji11⟩ : ∃ j_ : Int, (shl .u64 (IntKind.u64.wrap (Go.bits .and .u8 (rd l0 x8_1) 127)) (ji9)) = j_ := ⟨_, rfl⟩
                    replace H : (if (rd l0 x8_1) < 128 then (if (rd l0 x8_1) = 0 then (if x8_1 > 0 then (some (0, 0)) else (some (Go.bits .or .u64 x2_1 (ji11), wrap64 (x8_1 + 1)))) else (some (Go.bits .or .u64 x2_1 (ji11), wrap64 (x8_1 + 1)))) else (posting_Read.l0 kj4 (Go.bits .or .u64 x2_1 (ji11)) l0 (l0.length : Int) (wrap64 (x8_1 + 1)))) = some (r1, r2) := by first | (rw [hji11] at H; exact H) | (simp only [hji11] at H ⊢; exact H)
                    have hji11_ : (IntKind.u64.wrap ((IntKind.u64.wrap (Go.bits .and .u8 (rd l0 x8_1) 127)) * 2 ^ min (ji9).toNat 64)) = ji11 := hji11
                    have hji11z : (ji9) ≤ 64 → (IntKind.u64.wrap ((IntKind.u64.wrap (Go.bits .and .u8 (rd l0 x8_1) 127)) * 2 ^ (ji9).toNat)) = ji11 := shl_small hji11
                    by_cases c12 : (rd l0 x8_1) < 128
                    · rw [if_pos c12] at H
                      have c12b0 : decide ((rd l0 x8_1) < 128) = true := decide_eq_true c12
                      clear c12
                      by_cases c13 : (rd l0 x8_1) = 0
                      · rw [if_pos c13] at H
                        have c13b0 : ((rd l0 x8_1) == 0) = true := beq_iff_eq.mpr c13
                        have c13b1 : ((rd l0 x8_1) != 0) = false := bne_eq_false_iff_eq.mpr c13
                        clear c13
                        by_cases c14 : x8_1 > 0
                        · rw [if_pos c14] at H
                          have c14b0 : decide (0 < x8_1) = true := decide_eq_true c14
                          clear c14
                          simp only [Option.some.injEq, Prod.mk.injEq] at H
                          obtain ⟨rfl, rfl⟩ := H
                          go_wp2
                          go_ret2
                          exact ⟨by first | rfl | (simp; done) | (simp only [← hji9, ← hji11] <;> (first | rfl | simp)) | (simp [*]; done), by repeat (first | exact Drawn0.refl _ | apply Drawn0.step)⟩
                        · rw [if_neg c14] at H
                          have c14b0 : decide (0 < x8_1) = false := decide_eq_false c14
                          clear c14
                          simp only [Option.some.injEq, Prod.mk.injEq] at H
                          obtain ⟨rfl, rfl⟩ := H
                          go_wp2
                          go_ret2
                          exact ⟨by first | rfl | (simp; done) | (simp only [← hji9, ← hji11] <;> (first | rfl | simp)) | (simp [*]; done), by repeat (first | exact Drawn0.refl _ | apply Drawn0.step)⟩
                      · rw [if_neg c13] at H
                        have c13b0 : ((rd l0 x8_1) == 0) = false := beq_eq_false_iff_ne.mpr c13
                        have c13b1 : ((rd l0 x8_1) != 0) = true := bne_iff_ne.mpr c13
                        simp only [Option.some.injEq, Prod.mk.injEq] at H
                        obtain ⟨rfl, rfl⟩ := H
                        go_wp2
                        go_ret2
                        exact ⟨by first | rfl | (simp; done) | (simp only [← hji9, ← hji11] <;> (first | rfl | simp)) | (simp [*]; done), by repeat (first | exact Drawn0.refl _ | apply Drawn0.step)⟩
                    · rw [if_neg c12] at H
                      have c12b0 : decide ((rd l0 x8_1) < 128) = false := decide_eq_false c12
                      clear c12
                      have H' := Aside0.mk H
                      clear H
                      go_wp2
                      go_roundg kj4
                      case measure => have := HK1.out; have := HJ4.out; omega
                      case rel => exact ⟨(Go.bits .or .u64 x2_1 (ji11)), (wrap64 (x8_1 + 1)), (by first | rfl | (simp; done) | (simp only [← hji11] <;> (first | rfl | simp)) | (simp [*]; done)), (by first | rfl | (simp; done) | (simp [*]; done)), H', ⟨by have := HK1.out; have := HJ4.out; omega⟩, by repeat (first | exact Drawn0.refl _ | apply Drawn0.step)⟩
                  · rw [if_neg c10] at H
                    exact absurd H (by simp)
          · rw [if_neg c4] at H
            exact absurd H (by simp)
        · rw [if_neg c3] at H
          exact absurd H (by simp)
      · rw [if_neg c2] at H
        have c2b0 : decide (x8_1 < (l0.length : Int)) = false := decide_eq_false c2
        clear c2
        simp only [Option.some.injEq, Prod.mk.injEq] at H
        obtain ⟨rfl, rfl⟩ := H
        go_wp2
        go_ret2
        exact ⟨by first | rfl | (simp; done) | (simp [*]; done), by repeat (first | exact Drawn0.refl _ | apply Drawn0.step)⟩

-- NOT PRINTED: function 19 (posting_reader_next)

-- NOT PRINTED: function 9 (posting_Decode)

-- NOT PRINTED: function 12 (posting_Encode)

-- NOT PRINTED: function 24 (slices_Clone_byte_byte)

-- NOT PRINTED: function 14 (posting_Number)

-- NOT PRINTED: function 8 (tremalaw14_fixed)

/-! ### tremaref14_Read: function 16 -/
mutual
def tremaref14_Read.l0 : Nat → List Int → Int → Int → Int → Int → Option (Int × Int)
  | 0, _, _, _, _, _ => none
  | k + 1, x0, x1, x6, x7, x8 => if (wrap64 (x1 + x8)) < (x0.length : Int) then (if 0 ≤ (wrap64 (x1 + x8)) then (if x8 = 9 then (tremaref14_Read.j1 k x0 x1 x6 x7 x8 (IntKind.u64.wrap (rd x0 (wrap64 (x1 + x8)))) (decide ((IntKind.u64.wrap (rd x0 (wrap64 (x1 + x8)))) > 1))) else (tremaref14_Read.j1 k x0 x1 x6 x7 x8 (IntKind.u64.wrap (rd x0 (wrap64 (x1 + x8)))) false)) else (none)) else (some (0, 0))
def tremaref14_Read.j1 : Nat → List Int → Int → Int → Int → Int → Int → Bool → Option (Int × Int)
  | 0, _, _, _, _, _, _, _ => none
  | k + 1, x0, x1, x6, x7, x8, x9, x30 => if x30 = true then (some (0, 0)) else (if x9 < 128 then (if x8 > 0 then (if x9 = 0 then (some (0, 0)) else (some (IntKind.u64.wrap (x6 + (IntKind.u64.wrap ((Int.tmod x9 128) * x7))), wrap64 (x8 + 1)))) else (some (IntKind.u64.wrap (x6 + (IntKind.u64.wrap ((Int.tmod x9 128) * x7))), wrap64 (x8 + 1)))) else (tremaref14_Read.l0 k x0 x1 (IntKind.u64.wrap (x6 + (IntKind.u64.wrap ((Int.tmod x9 128) * x7)))) (IntKind.u64.wrap (x7 * 128)) (wrap64 (x8 + 1))))
end
def tremaref14_Read.f (k : Nat) (l0 : List Int) (a1 : Int) : Option (Int × Int) := tremaref14_Read.l0 k l0 a1 0 1 0
theorem tremaref14_Read.mono_l : ∀ k, (∀ y0 y1 y2 y3 y4, LeO (tremaref14_Read.l0 k y0 y1 y2 y3 y4) (tremaref14_Read.l0 (k + 1) y0 y1 y2 y3 y4)) ∧ (∀ y0 y1 y2 y3 y4 y5 y6, LeO (tremaref14_Read.j1 k y0 y1 y2 y3 y4 y5 y6) (tremaref14_Read.j1 (k + 1) y0 y1 y2 y3 y4 y5 y6))
  | 0 => ⟨fun _ _ _ _ _ r h => by simp [tremaref14_Read.l0] at h, fun _ _ _ _ _ _ _ r h => by simp [tremaref14_Read.j1] at h⟩
  | k + 1 => by
    obtain ⟨ih0, ih1⟩ := tremaref14_Read.mono_l k
    refine ⟨?_, ?_⟩
    · intro y0 y1 y2 y3 y4
      unfold tremaref14_Read.l0
      repeat' first
      | (with_reducible exact ih0 _ _ _ _ _)
      | (with_reducible exact ih1 _ _ _ _ _ _ _)
      | (with_reducible exact LeO.refl _)
      | (with_reducible exact LeO.none _)
      | (with_reducible refine LeO.ite ?_ ?_)
      | (with_reducible refine LeO.bind ?_ (fun _ => ?_))
      | exact ih0 _ _ _ _ _
      | exact ih1 _ _ _ _ _ _ _
      | exact LeO.none _
      | refine LeO.ite ?_ ?_
      | refine LeO.bind ?_ (fun _ => ?_)
    · intro y0 y1 y2 y3 y4 y5 y6
      unfold tremaref14_Read.j1
      repeat' first
      | (with_reducible exact ih0 _ _ _ _ _)
      | (with_reducible exact ih1 _ _ _ _ _ _ _)
      | (with_reducible exact LeO.refl _)
      | (with_reducible exact LeO.none _)
      | (with_reducible refine LeO.ite ?_ ?_)
      | (with_reducible refine LeO.bind ?_ (fun _ => ?_))
      | exact ih0 _ _ _ _ _
      | exact ih1 _ _ _ _ _ _ _
      | exact LeO.none _
      | refine LeO.ite ?_ ?_
      | refine LeO.bind ?_ (fun _ => ?_)
theorem tremaref14_Read.mono : ∀ a0 a1 k, LeO (tremaref14_Read.f k a0 a1) (tremaref14_Read.f (k + 1) a0 a1) := by
  intro a0 a1 k
  obtain ⟨ih0, ih1⟩ := tremaref14_Read.mono_l k
  unfold tremaref14_Read.f
  repeat' first
      | (with_reducible exact ih0 _ _ _ _ _)
      | (with_reducible exact ih1 _ _ _ _ _ _ _)
      | (with_reducible exact LeO.refl _)
      | (with_reducible exact LeO.none _)
      | (with_reducible refine LeO.ite ?_ ?_)
      | (with_reducible refine LeO.bind ?_ (fun _ => ?_))
      | exact ih0 _ _ _ _ _
      | exact ih1 _ _ _ _ _ _ _
      | exact LeO.none _
      | refine LeO.ite ?_ ?_
      | refine LeO.bind ?_ (fun _ => ?_)
set_option maxHeartbeats 8000000 in
set_option maxRecDepth 100000 in
theorem tremaref14_Read.calls (k : Nat) (A0 : Option Addr) (c0 : Nat) (l0 : List Int) (a1 : Int) (r1 : Int) (r2 : Int) (w : World) (hr0 : Kd.C (Kd.int .u8) w A0 l0.length l0) (hc0 : l0.length ≤ c0) (h : tremaref14_Read.f k l0 a1 = some (r1, r2)) :
    Calls Try.prog 16 #[.slice A0 l0.length c0, .int .i64 a1] w fun e w' => e = .returned (.tuple #[.int .u64 r1, .int .i64 r2]) ∧ Drawn0 w w' := by
  have HR0 := Aside0.mk hr0
  have HC0 := Aside0.mk hc0
  clear hr0 hc0
  have H : (tremaref14_Read.l0 k l0 a1 0 1 0) = some (r1, r2) := h
  clear h
  have H' := Aside0.mk H
  clear H
  go_enter Try.func16, Try.ntmps16
  go_wp2
  go_loopg [6, 7, 8] k (fun kq v6 v7 v8 w' => ∃ (x6_1 : Int) (x7_1 : Int) (x8_1 : Int), v6 = .int .u64 x6_1 ∧ v7 = .int .u64 x7_1 ∧ v8 = .int .i64 x8_1 ∧ Aside0 (tremaref14_Read.l0 kq l0 a1 x6_1 x7_1 x8_1 = some (r1, r2)) ∧ Aside0 (kq ≤ k) ∧ Drawn0 w w')
  case atStart => exact ⟨(0), (1), (0), (by first | rfl | (simp; done) | (simp [*]; done)), (by first | rfl | (simp; done) | (simp [*]; done)), (by first | rfl | (simp; done) | (simp [*]; done)), H', ⟨Nat.le_refl _⟩, by repeat (first | exact Drawn0.refl _ | apply Drawn0.step)⟩
  case round =>
    clear H'
    try clear c1
    try clear p2
    obtain ⟨x6_1, x7_1, x8_1, rfl, rfl, rfl, HA, HK1, ⟨m1, rfl⟩⟩ := hrel
    cases gk with
    | zero => exact absurd HA.out (by simp [tremaref14_Read.l0])
    | succ k1 =>
      have H := HA.out
      clear HA
      simp only [tremaref14_Read.l0] at H
      by_cases c3 : (wrap64 (a1 + x8_1)) < (l0.length : Int)
      · rw [if_pos c3] at H
        have c3b0 : decide ((wrap64 (a1 + x8_1)) < (l0.length : Int)) = true := decide_eq_true c3
        clear c3
        obtain ⟨ji4, hji4⟩ : ∃ j_ : Int, (wrap64 (a1 + x8_1)) = j_ := ⟨_, rfl⟩
        replace H : (if 0 ≤ (ji4) then (if x8_1 = 9 then (tremaref14_Read.j1 k1 l0 a1 x6_1 x7_1 x8_1 (IntKind.u64.wrap (rd l0 (ji4))) (decide ((IntKind.u64.wrap (rd l0 (ji4))) > 1))) else (tremaref14_Read.j1 k1 l0 a1 x6_1 x7_1 x8_1 (IntKind.u64.wrap (rd l0 (ji4))) false)) else (none)) = some (r1, r2) := by first | (rw [hji4] at H; exact H) | (simp only [hji4] at H ⊢; exact H)
        (try rw [hji4] at c3b0)
        have hji4w : (IntKind.i64.wrap (a1 + x8_1)) = ji4 := (i64_w _).trans hji4
        by_cases c5 : 0 ≤ (ji4)
        · rw [if_pos c5] at H
          have c5b0 : decide (0 ≤ (ji4)) = true := decide_eq_true c5
          clear c5
          have HC6 := Aside0.mk H
          clear H
          have p118 : 0 ≤ ((ji4) : Int) := of_decide_eq_true (by first | (with_reducible assumption) | assumption)
          have q118 : (ji4) < (l0.length : Int) := of_decide_eq_true (by first | (with_reducible assumption) | assumption)
          obtain ⟨ad118, e118, hx118_0⟩ := Kd.at_int HR0.out (ji4) p118 q118
          cases e118
          replace p118 := eq_true p118
          replace q118 := eq_true q118
          go_upto_region 6 with (fail)
          go_cut [30] (fun v30 wc => ∃ (kq : Nat) (x30_5 : Bool), v30 = .bool x30_5 ∧ Aside0 (tremaref14_Read.j1 kq l0 a1 x6_1 x7_1 x8_1 (IntKind.u64.wrap (rd l0 (ji4))) x30_5 = some (r1, r2)) ∧ Aside0 (kq ≤ k1) ∧ Drawn0 w wc)
          case first =>
            have H := HC6.out
            clear HC6
            by_cases c7 : x8_1 = 9
            · rw [if_pos c7] at H
              have c7b0 : (x8_1 == 9) = true := beq_iff_eq.mpr c7
              have c7b1 : (x8_1 != 9) = false := bne_eq_false_iff_eq.mpr c7
              clear c7
              (first | rw [c7b0] | (simp only [i64_w, i32_w]; rw [c7b0]) | skip)
              have H' := Aside0.mk H
              clear H
              go_wp2
              go_meet
              case rel => exact ⟨_, (decide ((IntKind.u64.wrap (rd l0 (ji4))) > 1)), (by first | rfl | (simp; done) | (simp only [← hji4] <;> (first | rfl | simp)) | (simp [*]; done)), H', ⟨by have := HK1.out; first | omega | exact Nat.le_refl _⟩, by repeat (first | exact Drawn0.refl _ | apply Drawn0.step)⟩
            · rw [if_neg c7] at H
              have c7b0 : (x8_1 == 9) = false := beq_eq_false_iff_ne.mpr c7
              have c7b1 : (x8_1 != 9) = true := bne_iff_ne.mpr c7
              (first | rw [c7b0] | (simp only [i64_w, i32_w]; rw [c7b0]) | skip)
              have H' := Aside0.mk H
              clear H
              go_wp2
              go_meet
              case rel => exact ⟨_, (false), (by first | rfl | (simp; done) | (simp [*]; done)), H', ⟨by have := HK1.out; first | omega | exact Nat.le_refl _⟩, by repeat (first | exact Drawn0.refl _ | apply Drawn0.step)⟩
          case rest =>
            clear HC6
            try clear c1
            try clear p1
            try clear q1
            try clear hx1
            try clear p2
            try clear c3
            try clear c3b0
            try clear c5
            try clear c5b0
            try clear p6
            try clear c7
            try clear c7b0
            try clear c7b1
            try clear hx118_0
            try clear p118
            try clear p2
            try clear q118
            obtain ⟨kq, x30_5, rfl, HA, HJ5, ⟨mc5, rfl⟩⟩ := hcut
            cases kq with
            | zero => exact absurd HA.out (by simp [tremaref14_Read.j1])
            | succ kj5 =>
              have H := HA.out
              clear HA
              simp only [tremaref14_Read.j1] at H
              by_cases c8 : x30_5 = true
              · subst c8
                have H1 : (some (0, 0)) = some (r1, r2) := by rw [if_pos rfl] at H; exact H
                clear H
                have H := H1
                clear H1
                simp only [Option.some.injEq, Prod.mk.injEq] at H
                obtain ⟨rfl, rfl⟩ := H
                go_wp2
                go_ret2
                exact ⟨by first | rfl | (simp; done) | (simp only [← hji4] <;> (first | rfl | simp)) | (simp [*]; done), by repeat (first | exact Drawn0.refl _ | apply Drawn0.step)⟩
              · replace c8 := Bool.eq_false_iff.mpr c8
                subst c8
                have H1 : (if (IntKind.u64.wrap (rd l0 (ji4))) < 128 then (if x8_1 > 0 then (if (IntKind.u64.wrap (rd l0 (ji4))) = 0 then (some (0, 0)) else (some (IntKind.u64.wrap (x6_1 + (IntKind.u64.wrap ((Int.tmod (IntKind.u64.wrap (rd l0 (ji4))) 128) * x7_1))), wrap64 (x8_1 + 1)))) else (some (IntKind.u64.wrap (x6_1 + (IntKind.u64.wrap ((Int.tmod (IntKind.u64.wrap (rd l0 (ji4))) 128) * x7_1))), wrap64 (x8_1 + 1)))) else (tremaref14_Read.l0 kj5 l0 a1 (IntKind.u64.wrap (x6_1 + (IntKind.u64.wrap ((Int.tmod (IntKind.u64.wrap (rd l0 (ji4))) 128) * x7_1)))) (IntKind.u64.wrap (x7_1 * 128)) (wrap64 (x8_1 + 1)))) = some (r1, r2) := by rw [if_neg (show ¬ (false = true) by decide)] at H; exact H
                clear H
                have H := H1
                clear H1
                by_cases c9 : (IntKind.u64.wrap (rd l0 (ji4))) < 128
                · rw [if_pos c9] at H
                  have c9b0 : decide ((IntKind.u64.wrap (rd l0 (ji4))) < 128) = true := decide_eq_true c9
                  clear c9
                  by_cases c10 : x8_1 > 0
                  · rw [if_pos c10] at H
                    have c10b0 : decide (0 < x8_1) = true := decide_eq_true c10
                    clear c10
                    by_cases c11 : (IntKind.u64.wrap (rd l0 (ji4))) = 0
                    · rw [if_pos c11] at H
                      have c11b0 : ((IntKind.u64.wrap (rd l0 (ji4))) == 0) = true := beq_iff_eq.mpr c11
                      have c11b1 : ((IntKind.u64.wrap (rd l0 (ji4))) != 0) = false := bne_eq_false_iff_eq.mpr c11
                      clear c11
                      simp only [Option.some.injEq, Prod.mk.injEq] at H
                      obtain ⟨rfl, rfl⟩ := H
                      go_wp2
                      go_ret2
                      exact ⟨by first | rfl | (simp; done) | (simp only [← hji4] <;> (first | rfl | simp)) | (simp [*]; done), by repeat (first | exact Drawn0.refl _ | apply Drawn0.step)⟩
                    · rw [if_neg c11] at H
                      have c11b0 : ((IntKind.u64.wrap (rd l0 (ji4))) == 0) = false := beq_eq_false_iff_ne.mpr c11
                      have c11b1 : ((IntKind.u64.wrap (rd l0 (ji4))) != 0) = true := bne_iff_ne.mpr c11
                      simp only [Option.some.injEq, Prod.mk.injEq] at H
                      obtain ⟨rfl, rfl⟩ := H
                      go_wp2
                      go_ret2
                      exact ⟨by first | rfl | (simp; done) | (simp only [← hji4] <;> (first | rfl | simp)) | (simp [*]; done), by repeat (first | exact Drawn0.refl _ | apply Drawn0.step)⟩
                  · rw [if_neg c10] at H
                    have c10b0 : decide (0 < x8_1) = false := decide_eq_false c10
                    clear c10
                    simp only [Option.some.injEq, Prod.mk.injEq] at H
                    obtain ⟨rfl, rfl⟩ := H
                    go_wp2
                    go_ret2
                    exact ⟨by first | rfl | (simp; done) | (simp only [← hji4] <;> (first | rfl | simp)) | (simp [*]; done), by repeat (first | exact Drawn0.refl _ | apply Drawn0.step)⟩
                · rw [if_neg c9] at H
                  have c9b0 : decide ((IntKind.u64.wrap (rd l0 (ji4))) < 128) = false := decide_eq_false c9
                  clear c9
                  have H' := Aside0.mk H
                  clear H
                  go_wp2
                  go_roundg kj5
                  case measure => have := HK1.out; have := HJ5.out; omega
                  case rel => exact ⟨(IntKind.u64.wrap (x6_1 + (IntKind.u64.wrap ((Int.tmod (IntKind.u64.wrap (rd l0 (ji4))) 128) * x7_1)))), (IntKind.u64.wrap (x7_1 * 128)), (wrap64 (x8_1 + 1)), (by first | rfl | (simp; done) | (simp only [← hji4] <;> (first | rfl | simp)) | (simp [*]; done)), (by first | rfl | (simp; done) | (simp [*]; done)), (by first | rfl | (simp; done) | (simp [*]; done)), H', ⟨by have := HK1.out; have := HJ5.out; omega⟩, by repeat (first | exact Drawn0.refl _ | apply Drawn0.step)⟩
        · rw [if_neg c5] at H
          exact absurd H (by simp)
      · rw [if_neg c3] at H
        have c3b0 : decide ((wrap64 (a1 + x8_1)) < (l0.length : Int)) = false := decide_eq_false c3
        clear c3
        simp only [Option.some.injEq, Prod.mk.injEq] at H
        obtain ⟨rfl, rfl⟩ := H
        go_wp2
        go_ret2
        exact ⟨by first | rfl | (simp; done) | (simp [*]; done), by repeat (first | exact Drawn0.refl _ | apply Drawn0.step)⟩

end Go.Proofs.Ytpebemljgeammab.PPostingKeeps
