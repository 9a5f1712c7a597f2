-- PRINTED BY print.sh 35421559b90ae4d0a3588c463048766b98c2df88dd9212a6774a882060cdf62d: not written by this session
import Derived.Test.YtpebemljgeammabPPostingKeepsx0
import Derived.Test.YtpebemljgeammabPPostingKeepsx2
namespace Go.Proofs.Ytpebemljgeammab.PPostingKeeps
open Go.RowKit Go.Proofs.YtpebemljgeammabW.PrintWords Go.Proofs.YtpebemljgeammabW.PrintLast Go.Proofs.YtpebemljgeammabW.PrintMore
attribute [local go_sem] max2_int min2_int max_two min_two max_three min_three max_four min_four   -- for this text's walks alone
set_option linter.unusedVariables false
set_option linter.unusedSimpArgs false

/-! ### tremaref14_Decode: function 10 -/
mutual
def tremaref14_Decode.l0 : Nat → List Int → List (S42) → Int → Int → Int → Int → Option ((List (S42)) × Int)
  | 0, _, _, _, _, _, _ => none
  | k + 1, x0, x4, x5, x6, x7, x8 => if x8 < x5 then (tremaref14_Decode.j1 k x0 x4 x5 x6 x7 x8 (decide (x6 ≥ 0))) else (tremaref14_Decode.j1 k x0 x4 x5 x6 x7 x8 false)
def tremaref14_Decode.j1 : Nat → List Int → List (S42) → Int → Int → Int → Int → Bool → Option ((List (S42)) × Int)
  | 0, _, _, _, _, _, _, _ => none
  | k + 1, x0, x4, x5, x6, x7, x8, x26 => if x26 = true then ((tremaref14_small.f k x0 x6).bind fun bt135 => ((tremaref14_small.f k x0 bt135.2).bind fun bt137 => (tremaref14_Decode.l1 k x0 x4 x5 bt137.2 (wrap64 ((wrap64 (x7 + bt135.1)) + 1)) x8 bt137.1 (-1) 0 (wrap64 ((wrap64 (x7 + bt135.1)) + 1)) ([] : List Int)))) else (if x6 = (x0.length : Int) then ((tremaref14_May.f k x4).bind fun t134 => (if t134 = true then (some (x4, 0)) else (some (([] : List (S42)), 2)))) else (some (([] : List (S42)), 2)))
def tremaref14_Decode.l1 : Nat → List Int → List (S42) → Int → Int → Int → Int → Int → Int → Int → Int → List Int → Option ((List (S42)) × Int)
  | 0, _, _, _, _, _, _, _, _, _, _, _ => none
  | k + 1, x0, x4, x5, x6, x7, x8, x10, x13, x14, x140000, x140001 => if x14 ≤ x10 then (if x6 ≥ 0 then ((tremaref14_small.f k x0 x6).bind fun bt140 => (if x140001.length < 17592186044416 then (tremaref14_Decode.l1 k x0 x4 x5 bt140.2 x7 x8 x10 (wrap64 ((wrap64 (x13 + bt140.1)) + 1)) (wrap64 (x14 + 1)) x140000 (x140001 ++ [wrap64 ((wrap64 (x13 + bt140.1)) + 1)])) else (none))) else (if x4.length < 4398046511104 then (tremaref14_Decode.l0 k x0 (x4 ++ [(⟨x140000, x140001⟩ : S42)]) x5 x6 x7 (wrap64 (x8 + 1))) else (none))) else (if x4.length < 4398046511104 then (tremaref14_Decode.l0 k x0 (x4 ++ [(⟨x140000, x140001⟩ : S42)]) x5 x6 x7 (wrap64 (x8 + 1))) else (none))
end
def tremaref14_Decode.f (k : Nat) (l0 : List Int) : Option ((List (S42)) × Int) := (tremaref14_small.f k l0 0).bind fun bt132 => (tremaref14_Decode.l0 k l0 ([] : List (S42)) bt132.1 bt132.2 (-1) 0)
theorem tremaref14_Decode.mono_l : ∀ k, (∀ y0 y1 y2 y3 y4 y5, LeO (tremaref14_Decode.l0 k y0 y1 y2 y3 y4 y5) (tremaref14_Decode.l0 (k + 1) y0 y1 y2 y3 y4 y5)) ∧ (∀ y0 y1 y2 y3 y4 y5 y6, LeO (tremaref14_Decode.j1 k y0 y1 y2 y3 y4 y5 y6) (tremaref14_Decode.j1 (k + 1) y0 y1 y2 y3 y4 y5 y6)) ∧ (∀ y0 y1 y2 y3 y4 y5 y6 y7 y8 y9 y10, LeO (tremaref14_Decode.l1 k y0 y1 y2 y3 y4 y5 y6 y7 y8 y9 y10) (tremaref14_Decode.l1 (k + 1) y0 y1 y2 y3 y4 y5 y6 y7 y8 y9 y10))
  | 0 => ⟨fun _ _ _ _ _ _ r h => by simp [tremaref14_Decode.l0] at h, fun _ _ _ _ _ _ _ r h => by simp [tremaref14_Decode.j1] at h, fun _ _ _ _ _ _ _ _ _ _ _ r h => by simp [tremaref14_Decode.l1] at h⟩
  | k + 1 => by
    obtain ⟨ih0, ih1, ih2⟩ := tremaref14_Decode.mono_l k
    refine ⟨?_, ?_, ?_⟩
    · intro y0 y1 y2 y3 y4 y5
      unfold tremaref14_Decode.l0
      repeat' first
      | (with_reducible exact ih0 _ _ _ _ _ _)
      | (with_reducible exact ih1 _ _ _ _ _ _ _)
      | (with_reducible exact ih2 _ _ _ _ _ _ _ _ _ _ _)
      | (with_reducible exact tremaref14_May.mono _ _)
      | (with_reducible exact tremaref14_small.mono _ _ _)
      | (with_reducible exact LeO.refl _)
      | (with_reducible exact LeO.none _)
      | (with_reducible refine LeO.ite ?_ ?_)
      | (with_reducible refine LeO.bind ?_ (fun _ => ?_))
      | exact ih0 _ _ _ _ _ _
      | exact ih1 _ _ _ _ _ _ _
      | exact ih2 _ _ _ _ _ _ _ _ _ _ _
      | exact tremaref14_May.mono _ _
      | exact tremaref14_small.mono _ _ _
      | exact LeO.none _
      | refine LeO.ite ?_ ?_
      | refine LeO.bind ?_ (fun _ => ?_)
    · intro y0 y1 y2 y3 y4 y5 y6
      unfold tremaref14_Decode.j1
      repeat' first
      | (with_reducible exact ih0 _ _ _ _ _ _)
      | (with_reducible exact ih1 _ _ _ _ _ _ _)
      | (with_reducible exact ih2 _ _ _ _ _ _ _ _ _ _ _)
      | (with_reducible exact tremaref14_May.mono _ _)
      | (with_reducible exact tremaref14_small.mono _ _ _)
      | (with_reducible exact LeO.refl _)
      | (with_reducible exact LeO.none _)
      | (with_reducible refine LeO.ite ?_ ?_)
      | (with_reducible refine LeO.bind ?_ (fun _ => ?_))
      | exact ih0 _ _ _ _ _ _
      | exact ih1 _ _ _ _ _ _ _
      | exact ih2 _ _ _ _ _ _ _ _ _ _ _
      | exact tremaref14_May.mono _ _
      | exact tremaref14_small.mono _ _ _
      | exact LeO.none _
      | refine LeO.ite ?_ ?_
      | refine LeO.bind ?_ (fun _ => ?_)
    · intro y0 y1 y2 y3 y4 y5 y6 y7 y8 y9 y10
      unfold tremaref14_Decode.l1
      repeat' first
      | (with_reducible exact ih0 _ _ _ _ _ _)
      | (with_reducible exact ih1 _ _ _ _ _ _ _)
      | (with_reducible exact ih2 _ _ _ _ _ _ _ _ _ _ _)
      | (with_reducible exact tremaref14_May.mono _ _)
      | (with_reducible exact tremaref14_small.mono _ _ _)
      | (with_reducible exact LeO.refl _)
      | (with_reducible exact LeO.none _)
      | (with_reducible refine LeO.ite ?_ ?_)
      | (with_reducible refine LeO.bind ?_ (fun _ => ?_))
      | exact ih0 _ _ _ _ _ _
      | exact ih1 _ _ _ _ _ _ _
      | exact ih2 _ _ _ _ _ _ _ _ _ _ _
      | exact tremaref14_May.mono _ _
      | exact tremaref14_small.mono _ _ _
      | exact LeO.none _
      | refine LeO.ite ?_ ?_
      | refine LeO.bind ?_ (fun _ => ?_)
theorem tremaref14_Decode.mono : ∀ a0 k, LeO (tremaref14_Decode.f k a0) (tremaref14_Decode.f (k + 1) a0) := by
  intro a0 k
  obtain ⟨ih0, ih1, ih2⟩ := tremaref14_Decode.mono_l k
  unfold tremaref14_Decode.f
  repeat' first
      | (with_reducible exact ih0 _ _ _ _ _ _)
      | (with_reducible exact ih1 _ _ _ _ _ _ _)
      | (with_reducible exact ih2 _ _ _ _ _ _ _ _ _ _ _)
      | (with_reducible exact tremaref14_May.mono _ _)
      | (with_reducible exact tremaref14_small.mono _ _ _)
      | (with_reducible exact LeO.refl _)
      | (with_reducible exact LeO.none _)
      | (with_reducible refine LeO.ite ?_ ?_)
      | (with_reducible refine LeO.bind ?_ (fun _ => ?_))
      | exact ih0 _ _ _ _ _ _
      | exact ih1 _ _ _ _ _ _ _
      | exact ih2 _ _ _ _ _ _ _ _ _ _ _
      | exact tremaref14_May.mono _ _
      | exact tremaref14_small.mono _ _ _
      | exact LeO.none _
      | refine LeO.ite ?_ ?_
      | refine LeO.bind ?_ (fun _ => ?_)
set_option maxHeartbeats 8000000 in
set_option maxRecDepth 100000 in
theorem tremaref14_Decode.calls (k : Nat) (A0 : Option Addr) (c0 : Nat) (l0 : List Int) (r1 : List (S42)) (r2 : Int) (w : World) (hr0 : Kd.C (Kd.int .u8) w A0 l0.length l0) (hc0 : l0.length ≤ c0) (h : tremaref14_Decode.f k l0 = some (r1, r2)) :
    Calls Try.prog 10 #[.slice A0 l0.length c0] w fun e w' => ∃ v0_ : Value, e = .returned (.tuple #[v0_, .int .i64 r2]) ∧ Kd.S k42 42 w' w.heap.size (fun _ => True) v0_ r1 ∧ Below w.heap.size w w' := by
  have hu42 := Try.underlying42
  have HR0 := Aside0.mk hr0
  have HC0 := Aside0.mk hc0
  clear hr0 hc0
  have HB := Aside0.mk (Below.refl w.heap.size w)
  have H : ((tremaref14_small.f k l0 0).bind fun bt132 => (tremaref14_Decode.l0 k l0 ([] : List (S42)) bt132.1 bt132.2 (-1) 0)) = some (r1, r2) := h
  clear h
  replace H := Option.bind_eq_some_iff.mp H
  obtain ⟨⟨t132, t133⟩, A20, H⟩ := H
  replace H : (tremaref14_Decode.l0 k l0 ([] : List (S42)) t132 t133 (-1) 0) = some (r1, r2) := H
  have A2 := Aside0.mk A20
  clear A20
  have H' := Aside0.mk H
  clear H
  go_enter Try.func10, Try.ntmps10
  go_wp2_with (first | ((with_reducible refine gate_callee (f := 20) rfl ?_); refine goesL_ (some 17) rfl rfl Try.func20 (by kernel_rfl) rfl #[.slice A0 l0.length c0, .int .i64 0] rfl (by (try simp only [List.map_toArray, List.map_cons, List.map_nil]); first | done | rfl | (simp only [List.length_drop, List.length_take]; rfl)) ?_; (with_reducible refine (tremaref14_small.calls k _ _ l0 0 t132 t133 _ ?side1 ?side2 A2.out).mono ?_); (case side1 => repeat (first | exact HR0.out | (with_reducible refine Kd.C_alloc ?_ _) | (with_reducible refine Kd.C_drewN ?_ _) | (with_reducible refine Kd.C_drew ?_))); (case side2 => exact HC0.out); rintro e w' ⟨rfl, ⟨nd, rfl⟩⟩; refine ⟨_, rfl, ?_⟩))
  go_loopg [4, 6, 7, 8] k (fun kq v4 v6 v7 v8 w' => ∃ (x4_1 : List (S42)) (x6_1 : Int) (x7_1 : Int) (x8_1 : Int), v6 = .int .i64 x6_1 ∧ v7 = .int .i64 x7_1 ∧ v8 = .int .i64 x8_1 ∧ Aside0 (tremaref14_Decode.l0 kq l0 x4_1 t132 x6_1 x7_1 x8_1 = some (r1, r2)) ∧ Aside0 (kq ≤ k) ∧ Aside0 (Kd.S k42 42 w' w.heap.size (fun _ => True) v4 x4_1) ∧ Aside0 (Below w.heap.size w w'))
  case atStart => exact ⟨(([] : List (S42))), (t133), ((-1)), (0), (by first | rfl | (simp; done) | (simp [*]; done)), (by first | rfl | (simp; done) | (simp [*]; done)), (by first | rfl | (simp; done) | (simp [*]; done)), H', ⟨Nat.le_refl _⟩, ⟨by first | exact Kd.S_nil _ _ _ _ _ | exact Kd.N_nil _ _ _ _ _ | exact Kd.V_nil _ _ _ _ _ | exact Kd.Q_nil _ _ _ _ _ | exact Kd.R_nil _ _ _ _ _⟩, ⟨by repeat (first | (with_reducible first | exact HB.out | apply below_alloc | apply pw_below_drewN | apply below_drew1) | exact HB.out)⟩⟩
  case round =>
    clear H'
    try clear c1
    try clear c2
    try clear p2
    obtain ⟨x4_1, x6_1, x7_1, x8_1, rfl, rfl, rfl, HA, HK1, HO_4, HB⟩ := hrel
    cases gk with
    | zero => exact absurd HA.out (by simp [tremaref14_Decode.l0])
    | succ k1 =>
      have H := HA.out
      clear HA
      simp only [tremaref14_Decode.l0] at H
      have HC3 := Aside0.mk H
      clear H
      go_upto_region 5 with (fail)
      go_cut [26] (fun v26 wc => ∃ (kq : Nat) (x26_2 : Bool), v26 = .bool x26_2 ∧ Aside0 (tremaref14_Decode.j1 kq l0 x4_1 t132 x6_1 x7_1 x8_1 x26_2 = some (r1, r2)) ∧ Aside0 (kq ≤ k1) ∧ Aside0 (Kd.S k42 42 wc w.heap.size (fun _ => True) u4 x4_1) ∧ Aside0 (Below w.heap.size w wc))
      case first =>
        have H := HC3.out
        clear HC3
        by_cases c4 : x8_1 < t132
        · rw [if_pos c4] at H
          have c4b0 : decide (x8_1 < t132) = true := decide_eq_true c4
          clear c4
          (first | rw [c4b0] | (simp only [i64_w, i32_w]; rw [c4b0]) | skip)
          have H' := Aside0.mk H
          clear H
          go_wp2
          go_meet
          case rel => exact ⟨_, (decide (x6_1 ≥ 0)), (by first | rfl | (simp; done) | (simp [*]; done)), H', ⟨by have := HK1.out; first | omega | exact Nat.le_refl _⟩, ⟨by (with_reducible repeat (first | apply Kd.S_alloc | apply Kd.S_drewN | apply Kd.S_drew)); exact HO_4.out⟩, ⟨by repeat (first | (with_reducible first | exact HB.out | apply below_alloc | apply pw_below_drewN | apply below_drew1) | exact HB.out)⟩⟩
        · rw [if_neg c4] at H
          have c4b0 : decide (x8_1 < t132) = false := decide_eq_false c4
          clear c4
          (first | rw [c4b0] | (simp only [i64_w, i32_w]; rw [c4b0]) | skip)
          have H' := Aside0.mk H
          clear H
          go_wp2
          go_meet
          case rel => exact ⟨_, (false), (by first | rfl | (simp; done) | (simp [*]; done)), H', ⟨by have := HK1.out; first | omega | exact Nat.le_refl _⟩, ⟨by (with_reducible repeat (first | apply Kd.S_alloc | apply Kd.S_drewN | apply Kd.S_drew)); exact HO_4.out⟩, ⟨by repeat (first | (with_reducible first | exact HB.out | apply below_alloc | apply pw_below_drewN | apply below_drew1) | exact HB.out)⟩⟩
      case rest =>
        clear HC3
        try clear c1
        try clear c2
        try clear p2
        try clear c4
        try clear c4b0
        try clear p2
        obtain ⟨kq, x26_2, rfl, HA, HJ2, HO_4, HB⟩ := hcut
        cases kq with
        | zero => exact absurd HA.out (by simp [tremaref14_Decode.j1])
        | succ kj2 =>
          have H := HA.out
          clear HA
          simp only [tremaref14_Decode.j1] at H
          by_cases c5 : x26_2 = true
          · subst c5
            have H1 : ((tremaref14_small.f kj2 l0 x6_1).bind fun bt135 => ((tremaref14_small.f kj2 l0 bt135.2).bind fun bt137 => (tremaref14_Decode.l1 kj2 l0 x4_1 t132 bt137.2 (wrap64 ((wrap64 (x7_1 + bt135.1)) + 1)) x8_1 bt137.1 (-1) 0 (wrap64 ((wrap64 (x7_1 + bt135.1)) + 1)) ([] : List Int)))) = some (r1, r2) := by rw [if_pos rfl] at H; exact H
            clear H
            have H := H1
            clear H1
            replace H := Option.bind_eq_some_iff.mp H
            obtain ⟨⟨t135, t136⟩, A60, H⟩ := H
            replace H : ((tremaref14_small.f kj2 l0 t136).bind fun bt137 => (tremaref14_Decode.l1 kj2 l0 x4_1 t132 bt137.2 (wrap64 ((wrap64 (x7_1 + t135)) + 1)) x8_1 bt137.1 (-1) 0 (wrap64 ((wrap64 (x7_1 + t135)) + 1)) ([] : List Int))) = some (r1, r2) := H
            have A6 := Aside0.mk A60
            clear A60
            replace H := Option.bind_eq_some_iff.mp H
            obtain ⟨⟨t137, t138⟩, A70, H⟩ := H
            replace H : (tremaref14_Decode.l1 kj2 l0 x4_1 t132 t138 (wrap64 ((wrap64 (x7_1 + t135)) + 1)) x8_1 t137 (-1) 0 (wrap64 ((wrap64 (x7_1 + t135)) + 1)) ([] : List Int)) = some (r1, r2) := H
            have A7 := Aside0.mk A70
            clear A70
            have H' := Aside0.mk H
            clear H
            go_wp2_with (first | ((with_reducible refine gate_callee (f := 20) rfl ?_); refine goesL_ (some 32) rfl rfl Try.func20 (by kernel_rfl) rfl #[.slice A0 l0.length c0, .int .i64 x6_1] rfl (by (try simp only [List.map_toArray, List.map_cons, List.map_nil]); first | done | rfl | (simp only [List.length_drop, List.length_take]; rfl)) ?_; (with_reducible refine (tremaref14_small.calls kj2 _ _ l0 x6_1 t135 t136 _ ?side1 ?side2 A6.out).mono ?_); (case side1 => repeat (first | exact (Kd.C_below HR0.out HB.out) | (with_reducible refine Kd.C_alloc ?_ _) | (with_reducible refine Kd.C_drewN ?_ _) | (with_reducible refine Kd.C_drew ?_))); (case side2 => exact HC0.out); rintro e w' ⟨rfl, ⟨nd, rfl⟩⟩; refine ⟨_, rfl, ?_⟩; (try (rw [drewN_self wc]; generalize hq_ : World.drewN wc _ = wc; have n0_ : Aside0 (Kd.S k42 42 wc w.heap.size (fun _ => True) u4 x4_1) := ⟨by rw [← hq_]; exact (by (with_reducible repeat (first | apply Kd.S_alloc | apply Kd.S_drewN | apply Kd.S_drew)); exact HO_4.out)⟩; have n1_ : Aside0 (Below w.heap.size w wc) := ⟨by rw [← hq_]; exact (by repeat (first | (with_reducible first | exact HB.out | apply below_alloc | apply pw_below_drewN | apply below_drew1) | exact HB.out))⟩; clear HO_4 HB hq_; have HO_4 := n0_; have HB := n1_; clear n0_ n1_))) | ((with_reducible refine gate_callee (f := 20) rfl ?_); refine goesL_ (some 38) rfl rfl Try.func20 (by kernel_rfl) rfl #[.slice A0 l0.length c0, .int .i64 t136] rfl (by (try simp only [List.map_toArray, List.map_cons, List.map_nil]); first | done | rfl | (simp only [List.length_drop, List.length_take]; rfl)) ?_; (with_reducible refine (tremaref14_small.calls kj2 _ _ l0 t136 t137 t138 _ ?side1 ?side2 A7.out).mono ?_); (case side1 => repeat (first | exact (Kd.C_below HR0.out HB.out) | (with_reducible refine Kd.C_alloc ?_ _) | (with_reducible refine Kd.C_drewN ?_ _) | (with_reducible refine Kd.C_drew ?_))); (case side2 => exact HC0.out); rintro e w' ⟨rfl, ⟨nd, rfl⟩⟩; refine ⟨_, rfl, ?_⟩; (try (rw [drewN_self wc]; generalize hq_ : World.drewN wc _ = wc; have n0_ : Aside0 (Kd.S k42 42 wc w.heap.size (fun _ => True) u4 x4_1) := ⟨by rw [← hq_]; exact (by (with_reducible repeat (first | apply Kd.S_alloc | apply Kd.S_drewN | apply Kd.S_drew)); exact HO_4.out)⟩; have n1_ : Aside0 (Below w.heap.size w wc) := ⟨by rw [← hq_]; exact (by repeat (first | (with_reducible first | exact HB.out | apply below_alloc | apply pw_below_drewN | apply below_drew1) | exact HB.out))⟩; clear HO_4 HB hq_; have HO_4 := n0_; have HB := n1_; clear n0_ n1_))) | ((with_reducible refine gate_dst (N := 12) rfl ?_); refine box_event ?hg (N := 12) ?hd (cs := #[.int .i64 0, .slice none 0 0]) (t := 42) ?hr ?_; (case hd => rfl); (case hg => rfl); (case hr => first | (go_simp; done) | (go_simp; rfl)); intro gb139 hg w8 hbox hb; have n0_ := Aside0.mk (Kd.S_below (Kd.S_elderB (by (with_reducible repeat (first | apply Kd.S_alloc | apply Kd.S_drewN | apply Kd.S_drew)); exact HO_4.out) gb139 (Nat.le_of_eq hg.symm)) hb); have n1_ := Aside0.mk (below_step (by repeat (first | (with_reducible first | exact HB.out | apply below_alloc | apply pw_below_drewN | apply below_drew1) | exact HB.out)) hb); have n2_ := Aside0.mk (hbox); have n3_ := Aside0.mk ((by rw [hg]; exact (below_size (by repeat (first | (with_reducible first | exact HB.out | apply below_alloc | apply pw_below_drewN | apply below_drew1) | exact HB.out))) : w.heap.size ≤ gb139)); have n4_ := Aside0.mk ((by rw [hg]; exact (below_size (by repeat (first | (with_reducible first | exact HB.out | apply below_alloc | apply pw_below_drewN | apply below_drew1) | exact HB.out))) : w.heap.size ≤ gb139)); clear HO_4; clear HB; have HO_4 := n0_; have HB := n1_; have BK139 := n2_; have GW139 := n3_; have GE139 := n4_; clear n0_ n1_ n2_ n3_ n4_; clear hb hbox hg; have hcz9_0 : w8.cell? ⟨gb139, 0, none⟩ = some (.int .i64 0) := (blk_cell BK139.out 0).trans rfl; have hcz9_1 : w8.cell? ⟨gb139, 1, none⟩ = some (.slice none 0 0) := (blk_cell BK139.out 1).trans rfl; have hfz9_0 := blk_frozen BK139.out 0; have hfz9_1 := blk_frozen BK139.out 1))
            go_loopg [6, 13, 14] kj2 (fun kq v6 v13 v14 w' => ∃ (x6_3 : Int) (x13_3 : Int) (x14_3 : Int) (x140001_3 : List Int) (u140001 : Value), v6 = .int .i64 x6_3 ∧ v13 = .int .i64 x13_3 ∧ v14 = .int .i64 x14_3 ∧ Aside0 (tremaref14_Decode.l1 kq l0 x4_1 t132 x6_3 (wrap64 ((wrap64 (x7_1 + t135)) + 1)) x8_1 t137 x13_3 x14_3 (wrap64 ((wrap64 (x7_1 + t135)) + 1)) x140001_3 = some (r1, r2)) ∧ Aside0 (kq ≤ kj2) ∧ Aside0 (Kd.S k42 42 w' w.heap.size (fun k_ => some k_ ≠ (u140001 : Value).ownBlock ∧ k_ ≠ gb139) u4 x4_1) ∧ Aside0 (Kd.R (Kd.int .i64) 3 w' w.heap.size (fun _ => True) u140001 x140001_3) ∧ Aside0 (w'.heap[gb139]? = some (.cells #[.int .i64 (wrap64 ((wrap64 (x7_1 + t135)) + 1)), u140001] 42 (0, 0))) ∧ Aside0 (Below w.heap.size w w'))
            case atStart => exact ⟨(t138), ((-1)), (0), (([] : List Int)), (.slice none 0 0), (by first | rfl | (simp; done) | (simp [*]; done)), (by first | rfl | (simp; done) | (simp [*]; done)), (by first | rfl | (simp; done) | (simp [*]; done)), H', ⟨Nat.le_refl _⟩, ⟨by (with_reducible repeat (first | apply Kd.S_alloc | apply Kd.S_drewN | apply Kd.S_drew)); exact Kd.S_mono (Kd.S_far (p := ⟨gb139, 1, none⟩) (Kd.S_far (p := ⟨gb139, 0, none⟩) (Kd.S_mono HO_4.out (fun k_ hk => (⟨hk, hk.2⟩ : _ ∧ k_ ≠ gb139))) (fun _ hk => hk.2) (.int .i64 (wrap64 ((wrap64 (x7_1 + t135)) + 1)))) (fun _ hk => hk.2) (.slice none 0 0)) (fun _ hk => ⟨(by simp [Value.ownBlock]), hk.1.2⟩)⟩, ⟨by first | exact Kd.R_nil _ _ _ _ _ | exact Kd.N_nil _ _ _ _ _ | exact Kd.V_nil _ _ _ _ _ | exact Kd.Q_nil _ _ _ _ _ | exact Kd.S_nil _ _ _ _ _⟩, ⟨by (with_reducible repeat (first | refine blk_drewN ?_ _ | refine blk_drew ?_ | refine blk_alloc ?_ _)); refine blk_put (cs := #[.int .i64 (wrap64 ((wrap64 (x7_1 + t135)) + 1)), .slice none 0 0]) ?_ 1 _ rfl; (with_reducible repeat (first | refine blk_drewN ?_ _ | refine blk_drew ?_ | refine blk_alloc ?_ _)); refine blk_put (cs := #[.int .i64 0, .slice none 0 0]) ?_ 0 _ rfl; (with_reducible repeat (first | refine blk_drewN ?_ _ | refine blk_drew ?_ | refine blk_alloc ?_ _)); exact BK139.out⟩, ⟨by repeat (first | (with_reducible first | exact HB.out | apply below_alloc | apply pw_below_drewN | apply below_drew1 | refine below_set ?_ GE139.out) | exact HB.out)⟩⟩
            case round =>
              clear H'
              try clear c1
              try clear c2
              try clear p2
              try clear c4
              try clear c4b0
              try clear c5
              try clear p6
              try clear hcz9_0
              try clear hcz9_1
              try clear hfz9_0
              try clear hfz9_1
              try clear p2
              obtain ⟨x6_3, x13_3, x14_3, x140001_3, u140001, rfl, rfl, rfl, HA, HK3, HO_4, HO_140001, BK139, HB⟩ := hrel
              cases gk with
              | zero => exact absurd HA.out (by simp [tremaref14_Decode.l1])
              | succ k3 =>
                have H := HA.out
                clear HA
                simp only [tremaref14_Decode.l1] at H
                by_cases c10 : x14_3 ≤ t137
                · rw [if_pos c10] at H
                  have c10b0 : decide (x14_3 ≤ t137) = true := decide_eq_true c10
                  clear c10
                  by_cases c11 : x6_3 ≥ 0
                  · rw [if_pos c11] at H
                    have c11b0 : decide (0 ≤ x6_3) = true := decide_eq_true c11
                    clear c11
                    replace H := Option.bind_eq_some_iff.mp H
                    obtain ⟨⟨t140, t141⟩, A120, H⟩ := H
                    replace H : (if x140001_3.length < 17592186044416 then (tremaref14_Decode.l1 k3 l0 x4_1 t132 t141 (wrap64 ((wrap64 (x7_1 + t135)) + 1)) x8_1 t137 (wrap64 ((wrap64 (x13_3 + t140)) + 1)) (wrap64 (x14_3 + 1)) (wrap64 ((wrap64 (x7_1 + t135)) + 1)) (x140001_3 ++ [wrap64 ((wrap64 (x13_3 + t140)) + 1)])) else (none)) = some (r1, r2) := H
                    have A12 := Aside0.mk A120
                    clear A120
                    by_cases c13 : x140001_3.length < 17592186044416
                    · rw [if_pos c13] at H
                      have LMc13 := Aside0.mk c13
                      clear c13
                      obtain ⟨y142, hy142⟩ : ∃ y_ : List Int, y_ = (x140001_3 ++ [wrap64 ((wrap64 (x13_3 + t140)) + 1)]) := ⟨_, rfl⟩
                      replace H : (tremaref14_Decode.l1 k3 l0 x4_1 t132 t141 (wrap64 ((wrap64 (x7_1 + t135)) + 1)) x8_1 t137 (wrap64 ((wrap64 (x13_3 + t140)) + 1)) (wrap64 (x14_3 + 1)) (wrap64 ((wrap64 (x7_1 + t135)) + 1)) y142) = some (r1, r2) := by first | (rw [hy142]; with_reducible exact H) | (have H2_ := (Option.bind_some _ _).symm.trans H; rw [hy142]; with_reducible exact H2_) | (have H2_ := (Option.bind_some _ _).symm.trans H; with_reducible exact H2_) | with_reducible exact H | (rw [hy142]; exact H) | exact H
                      have Ny142 := Aside0.mk hy142
                      clear hy142
                      have H' := Aside0.mk H
                      clear H
                      go_wp2_with (first | ((with_reducible refine gate_callee (f := 20) rfl ?_); refine goesL_ (some 59) rfl rfl Try.func20 (by kernel_rfl) rfl #[.slice A0 l0.length c0, .int .i64 x6_3] rfl (by (try simp only [List.map_toArray, List.map_cons, List.map_nil]); first | done | rfl | (simp only [List.length_drop, List.length_take]; rfl)) ?_; (with_reducible refine (tremaref14_small.calls k3 _ _ l0 x6_3 t140 t141 _ ?side1 ?side2 A12.out).mono ?_); (case side1 => repeat (first | exact (Kd.C_below HR0.out HB.out) | (with_reducible refine Kd.C_alloc ?_ _) | (with_reducible refine Kd.C_drewN ?_ _) | (with_reducible refine Kd.C_drew ?_))); (case side2 => exact HC0.out); rintro e w' ⟨rfl, ⟨nd, rfl⟩⟩; refine ⟨_, rfl, ?_⟩; (try (rw [drewN_self wr]; generalize hq_ : World.drewN wr _ = wr; have n0_ : Aside0 (Kd.R (Kd.int .i64) 3 wr w.heap.size (fun _ => True) u140001 x140001_3) := ⟨by rw [← hq_]; exact (by (with_reducible repeat (first | apply Kd.R_alloc | apply Kd.R_drewN | apply Kd.R_drew)); exact HO_140001.out)⟩; have n1_ : Aside0 (Kd.S k42 42 wr w.heap.size (fun k_ => some k_ ≠ (u140001 : Value).ownBlock ∧ k_ ≠ gb139) u4 x4_1) := ⟨by rw [← hq_]; exact (by (with_reducible repeat (first | apply Kd.S_alloc | apply Kd.S_drewN | apply Kd.S_drew)); exact HO_4.out)⟩; have n2_ : Aside0 (wr.heap[gb139]? = some (.cells #[.int .i64 (wrap64 ((wrap64 (x7_1 + t135)) + 1)), u140001] 42 (0, 0))) := ⟨by rw [← hq_]; exact (by (with_reducible repeat (first | refine blk_drewN ?_ _ | refine blk_drew ?_ | refine blk_alloc ?_ _)); exact BK139.out)⟩; have n3_ : Aside0 (Below w.heap.size w wr) := ⟨by rw [← hq_]; exact (by repeat (first | (with_reducible first | exact HB.out | apply below_alloc | apply pw_below_drewN | apply below_drew1 | refine below_set ?_ GE139.out) | exact HB.out))⟩; clear HO_140001 HO_4 BK139 HB hq_; have HO_140001 := n0_; have HO_4 := n1_; have BK139 := n2_; have HB := n3_; clear n0_ n1_ n2_ n3_)); have hcz14_0 : wr.cell? ⟨gb139, 0, none⟩ = some (.int .i64 (wrap64 ((wrap64 (x7_1 + t135)) + 1))) := (blk_cell BK139.out 0).trans rfl; have hcz14_1 : wr.cell? ⟨gb139, 1, none⟩ = some (u140001) := (blk_cell BK139.out 1).trans rfl; have hfz14_0 := blk_frozen BK139.out 0; have hfz14_1 := blk_frozen BK139.out 1) | ((with_reducible refine gate_builtin (b := .append) (xs := #[.tmp 67, .tmp 69]) rfl ?_); at_builtin; refine Kd.R_append (Kd.int .i64) (w0 := w) w.heap.size rfl (.tmp 67) (.tmp 69) 40 3 (.int .i64 0) 8 rfl Try.underlying40 info3 rfl (by decide) (by omega) u140001 x140001_3 (wrap64 ((wrap64 (x13_3 + t140)) + 1)) [.int .i64 (wrap64 ((wrap64 (x13_3 + t140)) + 1))] (fun _ => True) (fun _ => False) rfl rfl ?aP (fun _ hk => hk.elim) ?aF ?aO ?aB ?aS ?aL ?_; (case aP => exact rfl); (case aB => exact (by repeat (first | (with_reducible first | exact HB.out | apply below_alloc | apply pw_below_drewN | apply below_drew1 | refine below_set ?_ GE139.out) | exact HB.out))); (case aF => exact (fun _ _ => trivial)); (case aO => exact (by (with_reducible repeat (first | apply Kd.R_alloc | apply Kd.R_drewN | apply Kd.R_drew)); exact HO_140001.out)); (case aS => exact (below_size (by repeat (first | (with_reducible first | exact HB.out | apply below_alloc | apply pw_below_drewN | apply below_drew1 | refine below_set ?_ GE139.out) | exact HB.out)))); (case aL => have := LMc13.out; omega); intro v143 w15 ho hb hg hat; rw [← Ny142.out] at ho; have n0_ := Aside0.mk (Kd.S_after (ok := (fun k_ => k_ ≠ gb139)) (by (with_reducible repeat (first | apply Kd.S_alloc | apply Kd.S_drewN | apply Kd.S_drew)); exact Kd.S_mono HO_4.out (fun _ hk => ⟨hk.2, hk.1⟩)) hg hat); have n1_ := Aside0.mk (blk_grown (g := gb139) (o := .cells #[.int .i64 (wrap64 ((wrap64 (x7_1 + t135)) + 1)), u140001] 42 (0, 0)) (by (with_reducible repeat (first | refine blk_drewN ?_ _ | refine blk_drew ?_ | refine blk_alloc ?_ _)); exact BK139.out) hg (Kd.R_ne HO_140001.out BK139.out (by decide))); have n2_ := Aside0.mk (hb); have n3_ := Aside0.mk (ho); clear HO_4; clear BK139; clear HB; clear HO_140001; have HO_4 := n0_; have BK139 := n1_; have HB := n2_; have HO144 := n3_; clear n0_ n1_ n2_ n3_; clear ho hb hg hat; obtain ⟨Ao16, co16, eo16⟩ := Kd.R_slice HO144.out; subst eo16; have hcz17_0 : w15.cell? ⟨gb139, 0, none⟩ = some (.int .i64 (wrap64 ((wrap64 (x7_1 + t135)) + 1))) := (blk_cell BK139.out 0).trans rfl; have hcz17_1 : w15.cell? ⟨gb139, 1, none⟩ = some (u140001) := (blk_cell BK139.out 1).trans rfl; have hfz17_0 := blk_frozen BK139.out 0; have hfz17_1 := blk_frozen BK139.out 1))
                      go_roundg k3
                      case measure => have := HK1.out; have := HJ2.out; have := HK3.out; omega
                      case rel => exact ⟨(t141), (wrap64 ((wrap64 (x13_3 + t140)) + 1)), (wrap64 (x14_3 + 1)), (y142), (.slice Ao16 y142.length co16), (by first | rfl | (simp; done) | (simp [*]; done)), (by first | rfl | (simp; done) | (simp [*]; done)), (by first | rfl | (simp; done) | (simp [*]; done)), H', ⟨by have := HK1.out; have := HJ2.out; have := HK3.out; omega⟩, ⟨by (with_reducible repeat (first | apply Kd.S_alloc | apply Kd.S_drewN | apply Kd.S_drew)); exact Kd.S_mono (Kd.S_far (p := ⟨gb139, 1, none⟩) (Kd.S_mono HO_4.out (fun k_ hk => (⟨hk, hk.1⟩ : _ ∧ k_ ≠ gb139))) (fun _ hk => hk.2) (.slice Ao16 y142.length co16)) (fun _ hk => ⟨hk.1.2, hk.1.1⟩)⟩, ⟨by (with_reducible repeat (first | apply Kd.R_alloc | apply Kd.R_drewN | apply Kd.R_drew)); exact Kd.R_mono (Kd.R_far (p := ⟨gb139, 1, none⟩) (Kd.R_types HO144.out BK139.out (by decide)) (fun _ hk => hk.2) (.slice Ao16 y142.length co16)) (fun _ hk => trivial)⟩, ⟨by (with_reducible repeat (first | refine blk_drewN ?_ _ | refine blk_drew ?_ | refine blk_alloc ?_ _)); refine blk_put (cs := #[.int .i64 (wrap64 ((wrap64 (x7_1 + t135)) + 1)), u140001]) ?_ 1 _ rfl; (with_reducible repeat (first | refine blk_drewN ?_ _ | refine blk_drew ?_ | refine blk_alloc ?_ _)); exact BK139.out⟩, ⟨by repeat (first | (with_reducible first | exact HB.out | apply below_alloc | apply pw_below_drewN | apply below_drew1 | refine below_set ?_ GE139.out) | exact HB.out)⟩⟩
                    · rw [if_neg c13] at H
                      exact absurd H (by simp)
                  · rw [if_neg c11] at H
                    have c11b0 : decide (0 ≤ x6_3) = false := decide_eq_false c11
                    clear c11
                    by_cases c18 : x4_1.length < 4398046511104
                    · rw [if_pos c18] at H
                      have LMc18 := Aside0.mk c18
                      clear c18
                      obtain ⟨y145, hy145⟩ : ∃ y_ : List (S42), y_ = (x4_1 ++ [(⟨(wrap64 ((wrap64 (x7_1 + t135)) + 1)), x140001_3⟩ : S42)]) := ⟨_, rfl⟩
                      replace H : (tremaref14_Decode.l0 k3 l0 y145 t132 x6_3 (wrap64 ((wrap64 (x7_1 + t135)) + 1)) (wrap64 (x8_1 + 1))) = some (r1, r2) := by first | (rw [hy145]; with_reducible exact H) | (have H2_ := (Option.bind_some _ _).symm.trans H; rw [hy145]; with_reducible exact H2_) | (have H2_ := (Option.bind_some _ _).symm.trans H; with_reducible exact H2_) | with_reducible exact H | (rw [hy145]; exact H) | exact H
                      have Ny145 := Aside0.mk hy145
                      clear hy145
                      have H' := Aside0.mk H
                      clear H
                      have hcz19_0 : wr.cell? ⟨gb139, 0, none⟩ = some (.int .i64 (wrap64 ((wrap64 (x7_1 + t135)) + 1))) := (blk_cell BK139.out 0).trans rfl
                      have hcz19_1 : wr.cell? ⟨gb139, 1, none⟩ = some (u140001) := (blk_cell BK139.out 1).trans rfl
                      have hfz19_0 := blk_frozen BK139.out 0
                      have hfz19_1 := blk_frozen BK139.out 1
                      obtain ⟨Ao21, co21, eo21⟩ := Kd.R_slice HO_140001.out
                      subst eo21
                      go_wp2_with (first | ((with_reducible refine gate_builtin (b := .append) (xs := #[.tmp 72, .tmp 74]) rfl ?_); at_builtin; refine Kd.S_append k42 (w0 := w) w.heap.size rfl (.tmp 72) (.tmp 74) 24 42 (.agg #[(.int .i64 0), (.slice none 0 0)]) 32 rfl Try.underlying24 info42 rfl (by decide) (by omega) u4 x4_1 (⟨(wrap64 ((wrap64 (x7_1 + t135)) + 1)), x140001_3⟩ : S42) [.int .i64 (wrap64 ((wrap64 (x7_1 + t135)) + 1)), .slice Ao21 x140001_3.length co21] (fun k_ => k_ ≠ gb139) (fun k_ => some k_ = (.slice Ao21 x140001_3.length co21 : Value).ownBlock) rfl rfl ?aP (fun k_ hk_ => ((Kd.R_mono (ok' := fun k_ => ((fun k_ => k_ ≠ gb139)) k_ ∧ some k_ ≠ (u4 : Value).ownBlock) (Kd.R_types (Kd.R_apart' (HO_140001.out) (Kd.S_typed HO_4.out) (by decide)) BK139.out (by decide)) (fun k_ hk => ⟨hk.2, hk.1.2⟩))).1 k_ hk_.symm) ?aF ?aO ?aB ?aS ?aL ?_; (case aP => exact k42_mkM _ _ _ (⟨(wrap64 ((wrap64 (x7_1 + t135)) + 1)), x140001_3⟩ : S42) (Kd.R_mono (Kd.R_tight rfl (Kd.R_mono (ok' := fun k_ => ((fun k_ => k_ ≠ gb139)) k_ ∧ some k_ ≠ (u4 : Value).ownBlock) (Kd.R_types (Kd.R_apart' (HO_140001.out) (Kd.S_typed HO_4.out) (by decide)) BK139.out (by decide)) (fun k_ hk => ⟨hk.2, hk.1.2⟩))) (fun _ h_ => h_))); (case aB => exact (by repeat (first | (with_reducible first | exact HB.out | apply below_alloc | apply pw_below_drewN | apply below_drew1 | refine below_set ?_ GE139.out) | exact HB.out))); (case aF => exact (fun k_ hk => Kd.freshB (g := gb139) (o := .cells #[.int .i64 (wrap64 ((wrap64 (x7_1 + t135)) + 1)), .slice Ao21 x140001_3.length co21] 42 (0, 0)) (by (with_reducible repeat (first | refine blk_drewN ?_ _ | refine blk_drew ?_ | refine blk_alloc ?_ _)); exact BK139.out) k_ hk)); (case aO => exact (by (with_reducible repeat (first | apply Kd.S_alloc | apply Kd.S_drewN | apply Kd.S_drew)); exact Kd.S_mono HO_4.out (fun k_ hk => ⟨hk.2, fun e_ => hk.1 e_⟩))); (case aS => exact (below_size (by repeat (first | (with_reducible first | exact HB.out | apply below_alloc | apply pw_below_drewN | apply below_drew1 | refine below_set ?_ GE139.out) | exact HB.out)))); (case aL => have := LMc18.out; omega); intro v146 w20 ho hb hg hat; rw [← Ny145.out] at ho; have n0_ := Aside0.mk (blk_grown (g := gb139) (o := .cells #[.int .i64 (wrap64 ((wrap64 (x7_1 + t135)) + 1)), .slice Ao21 x140001_3.length co21] 42 (0, 0)) (by (with_reducible repeat (first | refine blk_drewN ?_ _ | refine blk_drew ?_ | refine blk_alloc ?_ _)); exact BK139.out) hg (Kd.S_away HO_4.out (fun _ hk => hk.2))); have n1_ := Aside0.mk (hb); have n2_ := Aside0.mk (ho); clear BK139; clear HB; clear HO_4; clear HO_140001; have BK139 := n0_; have HB := n1_; have HO147 := n2_; clear n0_ n1_ n2_; clear ho hb hg hat))
                      go_roundg k3
                      case measure => have := HK1.out; have := HJ2.out; have := HK3.out; omega
                      case rel => exact ⟨(y145), (x6_3), ((wrap64 ((wrap64 (x7_1 + t135)) + 1))), (wrap64 (x8_1 + 1)), (by first | rfl | (simp; done) | (simp [*]; done)), (by first | rfl | (simp; done) | (simp [*]; done)), (by first | rfl | (simp; done) | (simp [*]; done)), H', ⟨by have := HK1.out; have := HJ2.out; have := HK3.out; omega⟩, ⟨by (with_reducible repeat (first | apply Kd.S_alloc | apply Kd.S_drewN | apply Kd.S_drew)); exact Kd.S_mono HO147.out (fun _ hk => trivial)⟩, ⟨by repeat (first | (with_reducible first | exact HB.out | apply below_alloc | apply pw_below_drewN | apply below_drew1 | refine below_set ?_ GE139.out) | exact HB.out)⟩⟩
                    · rw [if_neg c18] at H
                      exact absurd H (by simp)
                · rw [if_neg c10] at H
                  have c10b0 : decide (x14_3 ≤ t137) = false := decide_eq_false c10
                  clear c10
                  by_cases c22 : x4_1.length < 4398046511104
                  · rw [if_pos c22] at H
                    have LMc22 := Aside0.mk c22
                    clear c22
                    obtain ⟨y148, hy148⟩ : ∃ y_ : List (S42), y_ = (x4_1 ++ [(⟨(wrap64 ((wrap64 (x7_1 + t135)) + 1)), x140001_3⟩ : S42)]) := ⟨_, rfl⟩
                    replace H : (tremaref14_Decode.l0 k3 l0 y148 t132 x6_3 (wrap64 ((wrap64 (x7_1 + t135)) + 1)) (wrap64 (x8_1 + 1))) = some (r1, r2) := by first | (rw [hy148]; with_reducible exact H) | (have H2_ := (Option.bind_some _ _).symm.trans H; rw [hy148]; with_reducible exact H2_) | (have H2_ := (Option.bind_some _ _).symm.trans H; with_reducible exact H2_) | with_reducible exact H | (rw [hy148]; exact H) | exact H
                    have Ny148 := Aside0.mk hy148
                    clear hy148
                    have H' := Aside0.mk H
                    clear H
                    have hcz23_0 : wr.cell? ⟨gb139, 0, none⟩ = some (.int .i64 (wrap64 ((wrap64 (x7_1 + t135)) + 1))) := (blk_cell BK139.out 0).trans rfl
                    have hcz23_1 : wr.cell? ⟨gb139, 1, none⟩ = some (u140001) := (blk_cell BK139.out 1).trans rfl
                    have hfz23_0 := blk_frozen BK139.out 0
                    have hfz23_1 := blk_frozen BK139.out 1
                    obtain ⟨Ao25, co25, eo25⟩ := Kd.R_slice HO_140001.out
                    subst eo25
                    go_wp2_with (first | ((with_reducible refine gate_builtin (b := .append) (xs := #[.tmp 72, .tmp 74]) rfl ?_); at_builtin; refine Kd.S_append k42 (w0 := w) w.heap.size rfl (.tmp 72) (.tmp 74) 24 42 (.agg #[(.int .i64 0), (.slice none 0 0)]) 32 rfl Try.underlying24 info42 rfl (by decide) (by omega) u4 x4_1 (⟨(wrap64 ((wrap64 (x7_1 + t135)) + 1)), x140001_3⟩ : S42) [.int .i64 (wrap64 ((wrap64 (x7_1 + t135)) + 1)), .slice Ao25 x140001_3.length co25] (fun k_ => k_ ≠ gb139) (fun k_ => some k_ = (.slice Ao25 x140001_3.length co25 : Value).ownBlock) rfl rfl ?aP (fun k_ hk_ => ((Kd.R_mono (ok' := fun k_ => ((fun k_ => k_ ≠ gb139)) k_ ∧ some k_ ≠ (u4 : Value).ownBlock) (Kd.R_types (Kd.R_apart' (HO_140001.out) (Kd.S_typed HO_4.out) (by decide)) BK139.out (by decide)) (fun k_ hk => ⟨hk.2, hk.1.2⟩))).1 k_ hk_.symm) ?aF ?aO ?aB ?aS ?aL ?_; (case aP => exact k42_mkM _ _ _ (⟨(wrap64 ((wrap64 (x7_1 + t135)) + 1)), x140001_3⟩ : S42) (Kd.R_mono (Kd.R_tight rfl (Kd.R_mono (ok' := fun k_ => ((fun k_ => k_ ≠ gb139)) k_ ∧ some k_ ≠ (u4 : Value).ownBlock) (Kd.R_types (Kd.R_apart' (HO_140001.out) (Kd.S_typed HO_4.out) (by decide)) BK139.out (by decide)) (fun k_ hk => ⟨hk.2, hk.1.2⟩))) (fun _ h_ => h_))); (case aB => exact (by repeat (first | (with_reducible first | exact HB.out | apply below_alloc | apply pw_below_drewN | apply below_drew1 | refine below_set ?_ GE139.out) | exact HB.out))); (case aF => exact (fun k_ hk => Kd.freshB (g := gb139) (o := .cells #[.int .i64 (wrap64 ((wrap64 (x7_1 + t135)) + 1)), .slice Ao25 x140001_3.length co25] 42 (0, 0)) (by (with_reducible repeat (first | refine blk_drewN ?_ _ | refine blk_drew ?_ | refine blk_alloc ?_ _)); exact BK139.out) k_ hk)); (case aO => exact (by (with_reducible repeat (first | apply Kd.S_alloc | apply Kd.S_drewN | apply Kd.S_drew)); exact Kd.S_mono HO_4.out (fun k_ hk => ⟨hk.2, fun e_ => hk.1 e_⟩))); (case aS => exact (below_size (by repeat (first | (with_reducible first | exact HB.out | apply below_alloc | apply pw_below_drewN | apply below_drew1 | refine below_set ?_ GE139.out) | exact HB.out)))); (case aL => have := LMc22.out; omega); intro v149 w24 ho hb hg hat; rw [← Ny148.out] at ho; have n0_ := Aside0.mk (blk_grown (g := gb139) (o := .cells #[.int .i64 (wrap64 ((wrap64 (x7_1 + t135)) + 1)), .slice Ao25 x140001_3.length co25] 42 (0, 0)) (by (with_reducible repeat (first | refine blk_drewN ?_ _ | refine blk_drew ?_ | refine blk_alloc ?_ _)); exact BK139.out) hg (Kd.S_away HO_4.out (fun _ hk => hk.2))); have n1_ := Aside0.mk (hb); have n2_ := Aside0.mk (ho); clear BK139; clear HB; clear HO_4; clear HO_140001; have BK139 := n0_; have HB := n1_; have HO150 := n2_; clear n0_ n1_ n2_; clear ho hb hg hat))
                    go_roundg k3
                    case measure => have := HK1.out; have := HJ2.out; have := HK3.out; omega
                    case rel => exact ⟨(y148), (x6_3), ((wrap64 ((wrap64 (x7_1 + t135)) + 1))), (wrap64 (x8_1 + 1)), (by first | rfl | (simp; done) | (simp [*]; done)), (by first | rfl | (simp; done) | (simp [*]; done)), (by first | rfl | (simp; done) | (simp [*]; done)), H', ⟨by have := HK1.out; have := HJ2.out; have := HK3.out; omega⟩, ⟨by (with_reducible repeat (first | apply Kd.S_alloc | apply Kd.S_drewN | apply Kd.S_drew)); exact Kd.S_mono HO150.out (fun _ hk => trivial)⟩, ⟨by repeat (first | (with_reducible first | exact HB.out | apply below_alloc | apply pw_below_drewN | apply below_drew1 | refine below_set ?_ GE139.out) | exact HB.out)⟩⟩
                  · rw [if_neg c22] at H
                    exact absurd H (by simp)
          · replace c5 := Bool.eq_false_iff.mpr c5
            subst c5
            have H1 : (if x6_1 = (l0.length : Int) then ((tremaref14_May.f kj2 x4_1).bind fun t134 => (if t134 = true then (some (x4_1, 0)) else (some (([] : List (S42)), 2)))) else (some (([] : List (S42)), 2))) = some (r1, r2) := by rw [if_neg (show ¬ (false = true) by decide)] at H; exact H
            clear H
            have H := H1
            clear H1
            by_cases c26 : x6_1 = (l0.length : Int)
            · rw [if_pos c26] at H
              have c26b0 : (x6_1 == (l0.length : Int)) = true := beq_iff_eq.mpr c26
              have c26b1 : (x6_1 != (l0.length : Int)) = false := bne_eq_false_iff_eq.mpr c26
              clear c26
              replace H := Option.bind_eq_some_iff.mp H
              obtain ⟨t134, A270, H⟩ := H
              replace H : (if t134 = true then (some (x4_1, 0)) else (some (([] : List (S42)), 2))) = some (r1, r2) := H
              have A27 := Aside0.mk A270
              clear A270
              by_cases c28 : t134 = true
              · subst c28
                have H1 : (some (x4_1, 0)) = some (r1, r2) := by rw [if_pos rfl] at H; exact H
                clear H
                have H := H1
                clear H1
                simp only [Option.some.injEq, Prod.mk.injEq] at H
                obtain ⟨rfl, rfl⟩ := H
                obtain ⟨Ao29, co29, eo29⟩ := Kd.S_slice HO_4.out
                subst eo29
                go_wp2_with (first | (go_at_call 21; (with_reducible refine (tremaref14_May.calls kj2 _ _ x4_1 true _ ?side1 ?side2 A27.out).mono ?_); (case side1 => repeat (first | exact (Kd.S_reads' HO_4.out).2.2 | (with_reducible refine Kd.C_alloc ?_ _) | (with_reducible refine Kd.C_drewN ?_ _) | (with_reducible refine Kd.C_drew ?_))); (case side2 => exact (Kd.S_reads' HO_4.out).2.1); rintro e w' ⟨rfl, ⟨nd, rfl⟩⟩))
                go_ret2
                exact ⟨_, by first | rfl | (simp [errW_none, errW_some] <;> rfl) | (simp [*, errW_none, errW_some] <;> rfl), by (with_reducible repeat (first | apply Kd.S_alloc | apply Kd.S_drewN | apply Kd.S_drew)); exact HO_4.out, by repeat (first | (with_reducible first | exact HB.out | apply below_alloc | apply pw_below_drewN | apply below_drew1) | exact HB.out)⟩
              · replace c28 := Bool.eq_false_iff.mpr c28
                subst c28
                have H1 : (some (([] : List (S42)), 2)) = some (r1, r2) := by rw [if_neg (show ¬ (false = true) by decide)] at H; exact H
                clear H
                have H := H1
                clear H1
                simp only [Option.some.injEq, Prod.mk.injEq] at H
                obtain ⟨rfl, rfl⟩ := H
                obtain ⟨Ao30, co30, eo30⟩ := Kd.S_slice HO_4.out
                subst eo30
                go_wp2_with (first | (go_at_call 21; (with_reducible refine (tremaref14_May.calls kj2 _ _ x4_1 false _ ?side1 ?side2 A27.out).mono ?_); (case side1 => repeat (first | exact (Kd.S_reads' HO_4.out).2.2 | (with_reducible refine Kd.C_alloc ?_ _) | (with_reducible refine Kd.C_drewN ?_ _) | (with_reducible refine Kd.C_drew ?_))); (case side2 => exact (Kd.S_reads' HO_4.out).2.1); rintro e w' ⟨rfl, ⟨nd, rfl⟩⟩))
                go_ret2
                exact ⟨_, by first | rfl | (simp [errW_none, errW_some] <;> rfl) | (simp [*, errW_none, errW_some] <;> rfl), by first | exact Kd.S_nil _ _ _ _ _ | exact Kd.N_nil _ _ _ _ _ | exact Kd.V_nil _ _ _ _ _ | exact Kd.Q_nil _ _ _ _ _ | exact Kd.R_nil _ _ _ _ _, by repeat (first | (with_reducible first | exact HB.out | apply below_alloc | apply pw_below_drewN | apply below_drew1) | exact HB.out)⟩
            · rw [if_neg c26] at H
              have c26b0 : (x6_1 == (l0.length : Int)) = false := beq_eq_false_iff_ne.mpr c26
              have c26b1 : (x6_1 != (l0.length : Int)) = true := bne_iff_ne.mpr c26
              simp only [Option.some.injEq, Prod.mk.injEq] at H
              obtain ⟨rfl, rfl⟩ := H
              go_wp2
              go_ret2
              exact ⟨_, by first | rfl | (simp [errW_none, errW_some] <;> rfl) | (simp [*, errW_none, errW_some] <;> rfl), by first | exact Kd.S_nil _ _ _ _ _ | exact Kd.N_nil _ _ _ _ _ | exact Kd.V_nil _ _ _ _ _ | exact Kd.Q_nil _ _ _ _ _ | exact Kd.R_nil _ _ _ _ _, by repeat (first | (with_reducible first | exact HB.out | apply below_alloc | apply pw_below_drewN | apply below_drew1) | exact HB.out)⟩

/-! ### tremaref14_Same: function 11 -/
mutual
def tremaref14_Same.l0 : Nat → List (S42) → List (S42) → Int → Option (Bool)
  | 0, _, _, _ => none
  | k + 1, x0, x1, x5 => if x5 < (x0.length : Int) then (if 0 ≤ x5 then (if x5 < (x1.length : Int) then (if ((rd_T42 x0 x5).f0) = ((rd_T42 x1 x5).f0) then (tremaref14_Same.j1 k x0 x1 x5 ((((rd_T42 x0 x5).f1).length : Int) != (((rd_T42 x1 x5).f1).length : Int))) else (tremaref14_Same.j1 k x0 x1 x5 true)) else (none)) else (none)) else (some true)
def tremaref14_Same.j1 : Nat → List (S42) → List (S42) → Int → Bool → Option (Bool)
  | 0, _, _, _, _ => none
  | k + 1, x0, x1, x5, x43 => if x43 = true then (some false) else (tremaref14_Same.l1 k x0 x1 x5 0)
def tremaref14_Same.l1 : Nat → List (S42) → List (S42) → Int → Int → Option (Bool)
  | 0, _, _, _, _ => none
  | k + 1, x0, x1, x5, x6 => if 0 ≤ x5 then (if x5 < (x0.length : Int) then (if x6 < (((rd_T42 x0 x5).f1).length : Int) then (if 0 ≤ x6 then (if x5 < (x1.length : Int) then (if x6 < (((rd_T42 x1 x5).f1).length : Int) then (if (rd ((rd_T42 x0 x5).f1) x6) = (rd ((rd_T42 x1 x5).f1) x6) then (tremaref14_Same.l1 k x0 x1 x5 (wrap64 (x6 + 1))) else (some false)) else (none)) else (none)) else (none)) else (tremaref14_Same.l0 k x0 x1 (wrap64 (x5 + 1)))) else (none)) else (none)
end
def tremaref14_Same.f (k : Nat) (l0 : List (S42)) (l1 : List (S42)) : Option (Bool) := if (l0.length : Int) = (l1.length : Int) then (tremaref14_Same.l0 k l0 l1 0) else (some false)
theorem tremaref14_Same.mono_l : ∀ k, (∀ y0 y1 y2, LeO (tremaref14_Same.l0 k y0 y1 y2) (tremaref14_Same.l0 (k + 1) y0 y1 y2)) ∧ (∀ y0 y1 y2 y3, LeO (tremaref14_Same.j1 k y0 y1 y2 y3) (tremaref14_Same.j1 (k + 1) y0 y1 y2 y3)) ∧ (∀ y0 y1 y2 y3, LeO (tremaref14_Same.l1 k y0 y1 y2 y3) (tremaref14_Same.l1 (k + 1) y0 y1 y2 y3))
  | 0 => ⟨fun _ _ _ r h => by simp [tremaref14_Same.l0] at h, fun _ _ _ _ r h => by simp [tremaref14_Same.j1] at h, fun _ _ _ _ r h => by simp [tremaref14_Same.l1] at h⟩
  | k + 1 => by
    obtain ⟨ih0, ih1, ih2⟩ := tremaref14_Same.mono_l k
    refine ⟨?_, ?_, ?_⟩
    · intro y0 y1 y2
      unfold tremaref14_Same.l0
      repeat' first
      | (with_reducible exact ih0 _ _ _)
      | (with_reducible exact ih1 _ _ _ _)
      | (with_reducible exact ih2 _ _ _ _)
      | (with_reducible exact LeO.refl _)
      | (with_reducible exact LeO.none _)
      | (with_reducible refine LeO.ite ?_ ?_)
      | (with_reducible refine LeO.bind ?_ (fun _ => ?_))
      | exact ih0 _ _ _
      | exact ih1 _ _ _ _
      | exact ih2 _ _ _ _
      | exact LeO.none _
      | refine LeO.ite ?_ ?_
      | refine LeO.bind ?_ (fun _ => ?_)
    · intro y0 y1 y2 y3
      unfold tremaref14_Same.j1
      repeat' first
      | (with_reducible exact ih0 _ _ _)
      | (with_reducible exact ih1 _ _ _ _)
      | (with_reducible exact ih2 _ _ _ _)
      | (with_reducible exact LeO.refl _)
      | (with_reducible exact LeO.none _)
      | (with_reducible refine LeO.ite ?_ ?_)
      | (with_reducible refine LeO.bind ?_ (fun _ => ?_))
      | exact ih0 _ _ _
      | exact ih1 _ _ _ _
      | exact ih2 _ _ _ _
      | exact LeO.none _
      | refine LeO.ite ?_ ?_
      | refine LeO.bind ?_ (fun _ => ?_)
    · intro y0 y1 y2 y3
      unfold tremaref14_Same.l1
      repeat' first
      | (with_reducible exact ih0 _ _ _)
      | (with_reducible exact ih1 _ _ _ _)
      | (with_reducible exact ih2 _ _ _ _)
      | (with_reducible exact LeO.refl _)
      | (with_reducible exact LeO.none _)
      | (with_reducible refine LeO.ite ?_ ?_)
      | (with_reducible refine LeO.bind ?_ (fun _ => ?_))
      | exact ih0 _ _ _
      | exact ih1 _ _ _ _
      | exact ih2 _ _ _ _
      | exact LeO.none _
      | refine LeO.ite ?_ ?_
      | refine LeO.bind ?_ (fun _ => ?_)
theorem tremaref14_Same.mono : ∀ a0 a1 k, LeO (tremaref14_Same.f k a0 a1) (tremaref14_Same.f (k + 1) a0 a1) := by
  intro a0 a1 k
  obtain ⟨ih0, ih1, ih2⟩ := tremaref14_Same.mono_l k
  unfold tremaref14_Same.f
  repeat' first
      | (with_reducible exact ih0 _ _ _)
      | (with_reducible exact ih1 _ _ _ _)
      | (with_reducible exact ih2 _ _ _ _)
      | (with_reducible exact LeO.refl _)
      | (with_reducible exact LeO.none _)
      | (with_reducible refine LeO.ite ?_ ?_)
      | (with_reducible refine LeO.bind ?_ (fun _ => ?_))
      | exact ih0 _ _ _
      | exact ih1 _ _ _ _
      | exact ih2 _ _ _ _
      | exact LeO.none _
      | refine LeO.ite ?_ ?_
      | refine LeO.bind ?_ (fun _ => ?_)
set_option maxHeartbeats 8000000 in
set_option maxRecDepth 100000 in
theorem tremaref14_Same.calls (k : Nat) (A0 : Option Addr) (c0 : Nat) (l0 : List (S42)) (A1 : Option Addr) (c1 : Nat) (l1 : List (S42)) (r : Bool) (w : World) (hr0 : Kd.C k42 w A0 l0.length l0) (hc0 : l0.length ≤ c0) (hr1 : Kd.C k42 w A1 l1.length l1) (hc1 : l1.length ≤ c1) (h : tremaref14_Same.f k l0 l1 = some r) :
    Calls Try.prog 11 #[.slice A0 l0.length c0, .slice A1 l1.length c1] w fun e w' => e = .returned (.bool r) ∧ Drawn0 w w' := by
  have HR0 := Aside0.mk hr0
  have HC0 := Aside0.mk hc0
  clear hr0 hc0
  have HR1 := Aside0.mk hr1
  have HC1 := Aside0.mk hc1
  clear hr1 hc1
  have H : (if (l0.length : Int) = (l1.length : Int) then (tremaref14_Same.l0 k l0 l1 0) else (some false)) = some r := h
  clear h
  by_cases c3 : (l0.length : Int) = (l1.length : Int)
  · rw [if_pos c3] at H
    have c3b0 : ((l0.length : Int) == (l1.length : Int)) = true := beq_iff_eq.mpr c3
    have c3b1 : ((l0.length : Int) != (l1.length : Int)) = false := bne_eq_false_iff_eq.mpr c3
    have c3b2 : (l0.length == l1.length) = true := by first | simpa using c3 | (simp at c3 ⊢; omega)
    clear c3
    have H' := Aside0.mk H
    clear H
    go_enter Try.func11, Try.ntmps11
    go_wp2
    repeat (go_quiet (fail); try go_wp2)
    go_loopg [5] k (fun kq v5 w' => ∃ (x5_1 : Int), v5 = .int .i64 x5_1 ∧ Aside0 (tremaref14_Same.l0 kq l0 l1 x5_1 = some r) ∧ Aside0 (kq ≤ k) ∧ Drawn0 w w')
    case atStart => exact ⟨(0), (by first | rfl | (simp; done) | (simp [*]; done)), H', ⟨Nat.le_refl _⟩, by repeat (first | exact Drawn0.refl _ | apply Drawn0.step)⟩
    case round =>
      clear H'
      try clear c1
      try clear p2
      try clear c3
      try clear c3b0
      try clear c3b1
      try clear c3b2
      obtain ⟨x5_1, rfl, HA, HK1, ⟨m1, rfl⟩⟩ := hrel
      cases gk with
      | zero => exact absurd HA.out (by simp [tremaref14_Same.l0])
      | succ k1 =>
        have H := HA.out
        clear HA
        simp only [tremaref14_Same.l0] at H
        by_cases c4 : x5_1 < (l0.length : Int)
        · rw [if_pos c4] at H
          have c4b0 : decide (x5_1 < (l0.length : Int)) = true := decide_eq_true c4
          clear c4
          have HC5 := Aside0.mk H
          clear H
          go_upto_region 6 with (fail)
          repeat (go_quiet (fail); go_upto_region 6 with (fail))
          go_cut [43] (fun v43 wc => ∃ (kq : Nat) (x43_4 : Bool), v43 = .bool x43_4 ∧ Aside0 (tremaref14_Same.j1 kq l0 l1 x5_1 x43_4 = some r) ∧ Aside0 (kq ≤ k1) ∧ Drawn0 w wc)
          case first =>
            have H := HC5.out
            clear HC5
            by_cases c6 : 0 ≤ x5_1
            · rw [if_pos c6] at H
              have c6b0 : decide (0 ≤ x5_1) = true := decide_eq_true c6
              clear c6
              (first | rw [c6b0] | (simp only [i64_w, i32_w]; rw [c6b0]) | skip)
              by_cases c7 : x5_1 < (l1.length : Int)
              · rw [if_pos c7] at H
                have c7b0 : decide (x5_1 < (l1.length : Int)) = true := decide_eq_true c7
                clear c7
                by_cases c8 : ((rd_T42 l0 x5_1).f0) = ((rd_T42 l1 x5_1).f0)
                · rw [if_pos c8] at H
                  have c8b0 : (((rd_T42 l0 x5_1).f0) == ((rd_T42 l1 x5_1).f0)) = true := beq_iff_eq.mpr c8
                  have c8b1 : (((rd_T42 l0 x5_1).f0) != ((rd_T42 l1 x5_1).f0)) = false := bne_eq_false_iff_eq.mpr c8
                  clear c8
                  have H' := Aside0.mk H
                  clear H
                  have p151 : 0 ≤ (x5_1 : Int) := of_decide_eq_true (by first | (with_reducible assumption) | assumption)
                  have q151 : x5_1 < (l0.length : Int) := of_decide_eq_true (by first | (with_reducible assumption) | assumption)
                  obtain ⟨ad151, A151_1, c151_1, e151, hx151_0, hx151_1, hl151_1, hi151_1⟩ := at_T42 HR0.out x5_1 p151 q151
                  cases e151
                  have HR151_1 := Aside0.mk hi151_1
                  have HC151_1 := Aside0.mk hl151_1
                  clear hi151_1 hl151_1
                  replace p151 := eq_true p151
                  replace q151 := eq_true q151
                  have p152 : 0 ≤ (x5_1 : Int) := of_decide_eq_true (by first | (with_reducible assumption) | assumption)
                  have q152 : x5_1 < (l1.length : Int) := of_decide_eq_true (by first | (with_reducible assumption) | assumption)
                  obtain ⟨ad152, A152_1, c152_1, e152, hx152_0, hx152_1, hl152_1, hi152_1⟩ := at_T42 HR1.out x5_1 p152 q152
                  cases e152
                  have HR152_1 := Aside0.mk hi152_1
                  have HC152_1 := Aside0.mk hl152_1
                  clear hi152_1 hl152_1
                  replace p152 := eq_true p152
                  replace q152 := eq_true q152
                  have p153 : 0 ≤ (x5_1 : Int) := of_decide_eq_true (by first | (with_reducible assumption) | assumption)
                  have q153 : x5_1 < (l0.length : Int) := of_decide_eq_true (by first | (with_reducible assumption) | assumption)
                  obtain ⟨ad153, A153_1, c153_1, e153, hx153_0, hx153_1, hl153_1, hi153_1⟩ := at_T42 HR0.out x5_1 p153 q153
                  obtain rfl : ad151 = ad153 := (by injection e153)
                  have HR153_1 := Aside0.mk hi153_1
                  have HC153_1 := Aside0.mk hl153_1
                  clear hi153_1 hl153_1
                  replace p153 := eq_true p153
                  replace q153 := eq_true q153
                  have ea_ := Option.some.inj (hx151_1.symm.trans hx153_1)
                  injection ea_ with ea_ en_ ec_
                  subst ea_
                  subst ec_
                  clear en_
                  have p154 : 0 ≤ (x5_1 : Int) := of_decide_eq_true (by first | (with_reducible assumption) | assumption)
                  have q154 : x5_1 < (l1.length : Int) := of_decide_eq_true (by first | (with_reducible assumption) | assumption)
                  obtain ⟨ad154, A154_1, c154_1, e154, hx154_0, hx154_1, hl154_1, hi154_1⟩ := at_T42 HR1.out x5_1 p154 q154
                  obtain rfl : ad152 = ad154 := (by injection e154)
                  have HR154_1 := Aside0.mk hi154_1
                  have HC154_1 := Aside0.mk hl154_1
                  clear hi154_1 hl154_1
                  replace p154 := eq_true p154
                  replace q154 := eq_true q154
                  have ea_ := Option.some.inj (hx152_1.symm.trans hx154_1)
                  injection ea_ with ea_ en_ ec_
                  subst ea_
                  subst ec_
                  clear en_
                  go_wp2
                  repeat (go_quiet (fail); try go_wp2)
                  go_meet
                  case rel => exact ⟨_, (((((rd_T42 l0 x5_1).f1).length : Int) != (((rd_T42 l1 x5_1).f1).length : Int))), (by first | rfl | (simp; done) | (simp [*]; done)), H', ⟨by have := HK1.out; first | omega | exact Nat.le_refl _⟩, by repeat (first | exact Drawn0.refl _ | apply Drawn0.step)⟩
                · rw [if_neg c8] at H
                  have c8b0 : (((rd_T42 l0 x5_1).f0) == ((rd_T42 l1 x5_1).f0)) = false := beq_eq_false_iff_ne.mpr c8
                  have c8b1 : (((rd_T42 l0 x5_1).f0) != ((rd_T42 l1 x5_1).f0)) = true := bne_iff_ne.mpr c8
                  have H' := Aside0.mk H
                  clear H
                  have p151 : 0 ≤ (x5_1 : Int) := of_decide_eq_true (by first | (with_reducible assumption) | assumption)
                  have q151 : x5_1 < (l0.length : Int) := of_decide_eq_true (by first | (with_reducible assumption) | assumption)
                  obtain ⟨ad151, A151_1, c151_1, e151, hx151_0, hx151_1, hl151_1, hi151_1⟩ := at_T42 HR0.out x5_1 p151 q151
                  cases e151
                  have HR151_1 := Aside0.mk hi151_1
                  have HC151_1 := Aside0.mk hl151_1
                  clear hi151_1 hl151_1
                  replace p151 := eq_true p151
                  replace q151 := eq_true q151
                  have p152 : 0 ≤ (x5_1 : Int) := of_decide_eq_true (by first | (with_reducible assumption) | assumption)
                  have q152 : x5_1 < (l1.length : Int) := of_decide_eq_true (by first | (with_reducible assumption) | assumption)
                  obtain ⟨ad152, A152_1, c152_1, e152, hx152_0, hx152_1, hl152_1, hi152_1⟩ := at_T42 HR1.out x5_1 p152 q152
                  cases e152
                  have HR152_1 := Aside0.mk hi152_1
                  have HC152_1 := Aside0.mk hl152_1
                  clear hi152_1 hl152_1
                  replace p152 := eq_true p152
                  replace q152 := eq_true q152
                  go_wp2
                  repeat (go_quiet (fail); try go_wp2)
                  go_meet
                  case rel => exact ⟨_, (true), (by first | rfl | (simp; done) | (simp [*]; done)), H', ⟨by have := HK1.out; first | omega | exact Nat.le_refl _⟩, by repeat (first | exact Drawn0.refl _ | apply Drawn0.step)⟩
              · rw [if_neg c7] at H
                exact absurd H (by simp)
            · rw [if_neg c6] at H
              exact absurd H (by simp)
          case rest =>
            clear HC5
            try clear c1
            try clear p1
            try clear q1
            try clear hx1
            try clear p2
            try clear c3
            try clear c3b0
            try clear c3b1
            try clear c3b2
            try clear c4
            try clear c4b0
            try clear c6
            try clear c6b0
            try clear c7
            try clear c7b0
            try clear c8
            try clear c8b0
            try clear c8b1
            try clear hx151_0
            try clear hx151_1
            try clear hx152_0
            try clear hx152_1
            try clear hx153_0
            try clear hx153_1
            try clear hx154_0
            try clear hx154_1
            try clear p151
            try clear p152
            try clear p153
            try clear p154
            try clear p2
            try clear q151
            try clear q152
            try clear q153
            try clear q154
            obtain ⟨kq, x43_4, rfl, HA, HJ4, ⟨mc4, rfl⟩⟩ := hcut
            cases kq with
            | zero => exact absurd HA.out (by simp [tremaref14_Same.j1])
            | succ kj4 =>
              have H := HA.out
              clear HA
              simp only [tremaref14_Same.j1] at H
              by_cases c9 : x43_4 = true
              · subst c9
                have H1 : (some false) = some r := by rw [if_pos rfl] at H; exact H
                clear H
                have H := H1
                clear H1
                obtain rfl := Option.some.inj H
                go_wp2
                repeat (go_quiet (fail); try go_wp2)
                go_ret
                exact ⟨by first | rfl | (simp; done) | (simp [*]; done), by repeat (first | exact Drawn0.refl _ | apply Drawn0.step)⟩
              · replace c9 := Bool.eq_false_iff.mpr c9
                subst c9
                have H1 : (tremaref14_Same.l1 kj4 l0 l1 x5_1 0) = some r := by rw [if_neg (show ¬ (false = true) by decide)] at H; exact H
                clear H
                have H := H1
                clear H1
                have H' := Aside0.mk H
                clear H
                go_wp2
                repeat (go_quiet (fail); try go_wp2)
                go_loopg [6] kj4 (fun kq v6 w' => ∃ (x6_3 : Int), v6 = .int .i64 x6_3 ∧ Aside0 (tremaref14_Same.l1 kq l0 l1 x5_1 x6_3 = some r) ∧ Aside0 (kq ≤ kj4) ∧ Drawn0 w w')
                case atStart => exact ⟨(0), (by first | rfl | (simp; done) | (simp [*]; done)), H', ⟨Nat.le_refl _⟩, by repeat (first | exact Drawn0.refl _ | apply Drawn0.step)⟩
                case round =>
                  clear H'
                  try clear c1
                  try clear p1
                  try clear q1
                  try clear hx1
                  try clear p2
                  try clear c3
                  try clear c3b0
                  try clear c3b1
                  try clear c3b2
                  try clear c4
                  try clear c4b0
                  try clear c6
                  try clear c6b0
                  try clear c7
                  try clear c7b0
                  try clear c8
                  try clear c8b0
                  try clear c8b1
                  try clear c9
                  try clear hx151_0
                  try clear hx151_1
                  try clear hx152_0
                  try clear hx152_1
                  try clear hx153_0
                  try clear hx153_1
                  try clear hx154_0
                  try clear hx154_1
                  try clear p1
                  try clear p151
                  try clear p152
                  try clear p153
                  try clear p154
                  try clear p2
                  try clear q1
                  try clear q151
                  try clear q152
                  try clear q153
                  try clear q154
                  obtain ⟨x6_3, rfl, HA, HK3, ⟨m3, rfl⟩⟩ := hrel
                  cases gk with
                  | zero => exact absurd HA.out (by simp [tremaref14_Same.l1])
                  | succ k3 =>
                    have H := HA.out
                    clear HA
                    simp only [tremaref14_Same.l1] at H
                    by_cases c10 : 0 ≤ x5_1
                    · rw [if_pos c10] at H
                      have c10b0 : decide (0 ≤ x5_1) = true := decide_eq_true c10
                      clear c10
                      by_cases c11 : x5_1 < (l0.length : Int)
                      · rw [if_pos c11] at H
                        have c11b0 : decide (x5_1 < (l0.length : Int)) = true := decide_eq_true c11
                        clear c11
                        by_cases c12 : x6_3 < (((rd_T42 l0 x5_1).f1).length : Int)
                        · rw [if_pos c12] at H
                          have c12b0 : decide (x6_3 < (((rd_T42 l0 x5_1).f1).length : Int)) = true := decide_eq_true c12
                          clear c12
                          by_cases c13 : 0 ≤ x6_3
                          · rw [if_pos c13] at H
                            have c13b0 : decide (0 ≤ x6_3) = true := decide_eq_true c13
                            clear c13
                            by_cases c14 : x5_1 < (l1.length : Int)
                            · rw [if_pos c14] at H
                              have c14b0 : decide (x5_1 < (l1.length : Int)) = true := decide_eq_true c14
                              clear c14
                              by_cases c15 : x6_3 < (((rd_T42 l1 x5_1).f1).length : Int)
                              · rw [if_pos c15] at H
                                have c15b0 : decide (x6_3 < (((rd_T42 l1 x5_1).f1).length : Int)) = true := decide_eq_true c15
                                clear c15
                                by_cases c16 : (rd ((rd_T42 l0 x5_1).f1) x6_3) = (rd ((rd_T42 l1 x5_1).f1) x6_3)
                                · rw [if_pos c16] at H
                                  have c16b0 : ((rd ((rd_T42 l0 x5_1).f1) x6_3) == (rd ((rd_T42 l1 x5_1).f1) x6_3)) = true := beq_iff_eq.mpr c16
                                  have c16b1 : ((rd ((rd_T42 l0 x5_1).f1) x6_3) != (rd ((rd_T42 l1 x5_1).f1) x6_3)) = false := bne_eq_false_iff_eq.mpr c16
                                  clear c16
                                  have H' := Aside0.mk H
                                  clear H
                                  have p155 : 0 ≤ (x5_1 : Int) := of_decide_eq_true (by first | (with_reducible assumption) | assumption)
                                  have q155 : x5_1 < (l0.length : Int) := of_decide_eq_true (by first | (with_reducible assumption) | assumption)
                                  obtain ⟨ad155, A155_1, c155_1, e155, hx155_0, hx155_1, hl155_1, hi155_1⟩ := at_T42 HR0.out x5_1 p155 q155
                                  cases e155
                                  have HR155_1 := Aside0.mk hi155_1
                                  have HC155_1 := Aside0.mk hl155_1
                                  clear hi155_1 hl155_1
                                  replace p155 := eq_true p155
                                  replace q155 := eq_true q155
                                  have p156 : 0 ≤ (x5_1 : Int) := of_decide_eq_true (by first | (with_reducible assumption) | assumption)
                                  have q156 : x5_1 < (l0.length : Int) := of_decide_eq_true (by first | (with_reducible assumption) | assumption)
                                  obtain ⟨ad156, A156_1, c156_1, e156, hx156_0, hx156_1, hl156_1, hi156_1⟩ := at_T42 HR0.out x5_1 p156 q156
                                  obtain rfl : ad155 = ad156 := (by injection e156)
                                  have HR156_1 := Aside0.mk hi156_1
                                  have HC156_1 := Aside0.mk hl156_1
                                  clear hi156_1 hl156_1
                                  replace p156 := eq_true p156
                                  replace q156 := eq_true q156
                                  have ea_ := Option.some.inj (hx155_1.symm.trans hx156_1)
                                  injection ea_ with ea_ en_ ec_
                                  subst ea_
                                  subst ec_
                                  clear en_
                                  have p157 : 0 ≤ (x6_3 : Int) := of_decide_eq_true (by first | (with_reducible assumption) | assumption)
                                  have q157 : x6_3 < (((rd_T42 l0 x5_1).f1).length : Int) := of_decide_eq_true (by first | (with_reducible assumption) | assumption)
                                  obtain ⟨ad157, e157, hx157_0⟩ := Kd.at_int HR156_1.out x6_3 p157 q157
                                  cases e157
                                  replace p157 := eq_true p157
                                  replace q157 := eq_true q157
                                  have p158 : 0 ≤ (x5_1 : Int) := of_decide_eq_true (by first | (with_reducible assumption) | assumption)
                                  have q158 : x5_1 < (l1.length : Int) := of_decide_eq_true (by first | (with_reducible assumption) | assumption)
                                  obtain ⟨ad158, A158_1, c158_1, e158, hx158_0, hx158_1, hl158_1, hi158_1⟩ := at_T42 HR1.out x5_1 p158 q158
                                  cases e158
                                  have HR158_1 := Aside0.mk hi158_1
                                  have HC158_1 := Aside0.mk hl158_1
                                  clear hi158_1 hl158_1
                                  replace p158 := eq_true p158
                                  replace q158 := eq_true q158
                                  have p159 : 0 ≤ (x6_3 : Int) := of_decide_eq_true (by first | (with_reducible assumption) | assumption)
                                  have q159 : x6_3 < (((rd_T42 l1 x5_1).f1).length : Int) := of_decide_eq_true (by first | (with_reducible assumption) | assumption)
                                  obtain ⟨ad159, e159, hx159_0⟩ := Kd.at_int HR158_1.out x6_3 p159 q159
                                  cases e159
                                  replace p159 := eq_true p159
                                  replace q159 := eq_true q159
                                  go_wp2
                                  repeat (go_quiet (fail); try go_wp2)
                                  go_roundg k3
                                  case measure => have := HK1.out; have := HJ4.out; have := HK3.out; omega
                                  case rel => exact ⟨(wrap64 (x6_3 + 1)), (by first | rfl | (simp; done) | (simp [*]; done)), H', ⟨by have := HK1.out; have := HJ4.out; have := HK3.out; omega⟩, by repeat (first | exact Drawn0.refl _ | apply Drawn0.step)⟩
                                · rw [if_neg c16] at H
                                  have c16b0 : ((rd ((rd_T42 l0 x5_1).f1) x6_3) == (rd ((rd_T42 l1 x5_1).f1) x6_3)) = false := beq_eq_false_iff_ne.mpr c16
                                  have c16b1 : ((rd ((rd_T42 l0 x5_1).f1) x6_3) != (rd ((rd_T42 l1 x5_1).f1) x6_3)) = true := bne_iff_ne.mpr c16
                                  obtain rfl := Option.some.inj H
                                  have p155 : 0 ≤ (x5_1 : Int) := of_decide_eq_true (by first | (with_reducible assumption) | assumption)
                                  have q155 : x5_1 < (l0.length : Int) := of_decide_eq_true (by first | (with_reducible assumption) | assumption)
                                  obtain ⟨ad155, A155_1, c155_1, e155, hx155_0, hx155_1, hl155_1, hi155_1⟩ := at_T42 HR0.out x5_1 p155 q155
                                  cases e155
                                  have HR155_1 := Aside0.mk hi155_1
                                  have HC155_1 := Aside0.mk hl155_1
                                  clear hi155_1 hl155_1
                                  replace p155 := eq_true p155
                                  replace q155 := eq_true q155
                                  have p156 : 0 ≤ (x5_1 : Int) := of_decide_eq_true (by first | (with_reducible assumption) | assumption)
                                  have q156 : x5_1 < (l0.length : Int) := of_decide_eq_true (by first | (with_reducible assumption) | assumption)
                                  obtain ⟨ad156, A156_1, c156_1, e156, hx156_0, hx156_1, hl156_1, hi156_1⟩ := at_T42 HR0.out x5_1 p156 q156
                                  obtain rfl : ad155 = ad156 := (by injection e156)
                                  have HR156_1 := Aside0.mk hi156_1
                                  have HC156_1 := Aside0.mk hl156_1
                                  clear hi156_1 hl156_1
                                  replace p156 := eq_true p156
                                  replace q156 := eq_true q156
                                  have ea_ := Option.some.inj (hx155_1.symm.trans hx156_1)
                                  injection ea_ with ea_ en_ ec_
                                  subst ea_
                                  subst ec_
                                  clear en_
                                  have p157 : 0 ≤ (x6_3 : Int) := of_decide_eq_true (by first | (with_reducible assumption) | assumption)
                                  have q157 : x6_3 < (((rd_T42 l0 x5_1).f1).length : Int) := of_decide_eq_true (by first | (with_reducible assumption) | assumption)
                                  obtain ⟨ad157, e157, hx157_0⟩ := Kd.at_int HR156_1.out x6_3 p157 q157
                                  cases e157
                                  replace p157 := eq_true p157
                                  replace q157 := eq_true q157
                                  have p158 : 0 ≤ (x5_1 : Int) := of_decide_eq_true (by first | (with_reducible assumption) | assumption)
                                  have q158 : x5_1 < (l1.length : Int) := of_decide_eq_true (by first | (with_reducible assumption) | assumption)
                                  obtain ⟨ad158, A158_1, c158_1, e158, hx158_0, hx158_1, hl158_1, hi158_1⟩ := at_T42 HR1.out x5_1 p158 q158
                                  cases e158
                                  have HR158_1 := Aside0.mk hi158_1
                                  have HC158_1 := Aside0.mk hl158_1
                                  clear hi158_1 hl158_1
                                  replace p158 := eq_true p158
                                  replace q158 := eq_true q158
                                  have p159 : 0 ≤ (x6_3 : Int) := of_decide_eq_true (by first | (with_reducible assumption) | assumption)
                                  have q159 : x6_3 < (((rd_T42 l1 x5_1).f1).length : Int) := of_decide_eq_true (by first | (with_reducible assumption) | assumption)
                                  obtain ⟨ad159, e159, hx159_0⟩ := Kd.at_int HR158_1.out x6_3 p159 q159
                                  cases e159
                                  replace p159 := eq_true p159
                                  replace q159 := eq_true q159
                                  go_wp2
                                  repeat (go_quiet (fail); try go_wp2)
                                  go_ret
                                  exact ⟨by first | rfl | (simp; done) | (simp [*]; done), by repeat (first | exact Drawn0.refl _ | apply Drawn0.step)⟩
                              · rw [if_neg c15] at H
                                exact absurd H (by simp)
                            · rw [if_neg c14] at H
                              exact absurd H (by simp)
                          · rw [if_neg c13] at H
                            exact absurd H (by simp)
                        · rw [if_neg c12] at H
                          have c12b0 : decide (x6_3 < (((rd_T42 l0 x5_1).f1).length : Int)) = false := decide_eq_false c12
                          clear c12
                          have H' := Aside0.mk H
                          clear H
                          have p155 : 0 ≤ (x5_1 : Int) := of_decide_eq_true (by first | (with_reducible assumption) | assumption)
                          have q155 : x5_1 < (l0.length : Int) := of_decide_eq_true (by first | (with_reducible assumption) | assumption)
                          obtain ⟨ad155, A155_1, c155_1, e155, hx155_0, hx155_1, hl155_1, hi155_1⟩ := at_T42 HR0.out x5_1 p155 q155
                          cases e155
                          have HR155_1 := Aside0.mk hi155_1
                          have HC155_1 := Aside0.mk hl155_1
                          clear hi155_1 hl155_1
                          replace p155 := eq_true p155
                          replace q155 := eq_true q155
                          go_wp2
                          repeat (go_quiet (fail); try go_wp2)
                          go_roundg k3
                          case measure => have := HK1.out; have := HJ4.out; have := HK3.out; omega
                          case rel => exact ⟨(wrap64 (x5_1 + 1)), (by first | rfl | (simp; done) | (simp [*]; done)), H', ⟨by have := HK1.out; have := HJ4.out; have := HK3.out; omega⟩, by repeat (first | exact Drawn0.refl _ | apply Drawn0.step)⟩
                      · rw [if_neg c11] at H
                        exact absurd H (by simp)
                    · rw [if_neg c10] at H
                      exact absurd H (by simp)
        · rw [if_neg c4] at H
          have c4b0 : decide (x5_1 < (l0.length : Int)) = false := decide_eq_false c4
          clear c4
          obtain rfl := Option.some.inj H
          go_wp2
          repeat (go_quiet (fail); try go_wp2)
          go_ret
          exact ⟨by first | rfl | (simp; done) | (simp [*]; done), by repeat (first | exact Drawn0.refl _ | apply Drawn0.step)⟩
  · rw [if_neg c3] at H
    have c3b0 : ((l0.length : Int) == (l1.length : Int)) = false := beq_eq_false_iff_ne.mpr c3
    have c3b1 : ((l0.length : Int) != (l1.length : Int)) = true := bne_iff_ne.mpr c3
    have c3b2 : (l0.length == l1.length) = false := by first | simpa using c3 | (simp at c3 ⊢; omega)
    obtain rfl := Option.some.inj H
    go_enter Try.func11, Try.ntmps11
    go_wp2
    repeat (go_quiet (fail); try go_wp2)
    go_ret
    exact ⟨by first | rfl | (simp; done) | (simp [*]; done), by repeat (first | exact Drawn0.refl _ | apply Drawn0.step)⟩

end Go.Proofs.Ytpebemljgeammab.PPostingKeeps
