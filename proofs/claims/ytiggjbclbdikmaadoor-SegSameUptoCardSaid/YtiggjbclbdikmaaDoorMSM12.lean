/-
  Several texts of this claim in one: what its law's proof uses.
-/
import Derived.Test.YtiggjbclbdikmaaDoorMSM2
import Derived.Test.YtiggjbclbdikmaaDoorMSM11
import Derived.Test.YtiggjbclbdikmaaDoorMSM10
import Derived.Test.YtiggjbclbdikmaaDoorMSM8
import Derived.Lib.SlBytesConst
import Derived.Test.YtiggjbclbdikmaaDoorMSM7
import Derived.Test.YtiggjbclbdikmaaDoorMSM4
import Derived.Deep.RegionHeld3
import Derived.Deep.DeepCutAuto
import Derived.BigQuiet
namespace Go.Proofs.YtiggjbclbdikmaaDoor.X
open Go.RowKit Go.Proofs.YtiggjbclbdikmaaDoorW.PrintWords Go.Proofs.YtiggjbclbdikmaaDoorW.PrintLast Go.Proofs.YtiggjbclbdikmaaDoorW.PrintMore
attribute [local go_sem] max2_int min2_int max_two min_two max_three min_three max_four min_four   
set_option linter.unusedVariables false
set_option linter.unusedSimpArgs false
mutual
def utf_Encode.l0 : Nat → List Int → List Int → Int → Int → Option (List Int)
 | 0, _, _, _, _ => none
 | k + 1, x3, x6, x7, x8 => if x8 < x7 then (if 0 ≤ x8 then (if x8 < (x6.length : Int) then ((utf_Valid.f (rd x6 x8)).bind fun t203 => (if t203 = true then (utf_Encode.j1 k x3 (rd x6 x8) x6 x7 x8) else (utf_Encode.j1 k x3 65533 x6 x7 x8))) else (none)) else (none)) else (some x3)
def utf_Encode.j1 : Nat → List Int → Int → List Int → Int → Int → Option (List Int)
 | 0, _, _, _, _, _ => none
 | k + 1, x3, x5, x6, x7, x8 => if x5 < 128 then (if x3.length < 140737488355328 then (utf_Encode.l0 k (x3 ++ [(x5) % 256]) x6 x7 (wrap64 (x8 + 1))) else (none)) else (if x5 < 2048 then ((some (([Go.bits .or .u8 192 ((x5 / 64) % 256), Go.bits .or .u8 128 ((Go.bits .and .i32 x5 63) % 256)] : List Int) : List Int)).bind fun y207 => (if x3.length + y207.length < 140737488355328 then (utf_Encode.l0 k (x3 ++ y207) x6 x7 (wrap64 (x8 + 1))) else (none))) else (if x5 < 65536 then ((some (([Go.bits .or .u8 224 ((x5 / 4096) % 256), Go.bits .or .u8 128 ((Go.bits .and .i32 (x5 / 64) 63) % 256), Go.bits .or .u8 128 ((Go.bits .and .i32 x5 63) % 256)] : List Int) : List Int)).bind fun y213 => (if x3.length + y213.length < 140737488355328 then (utf_Encode.l0 k (x3 ++ y213) x6 x7 (wrap64 (x8 + 1))) else (none))) else ((some (([Go.bits .or .u8 240 ((x5 / 262144) % 256), Go.bits .or .u8 128 ((Go.bits .and .i32 (x5 / 4096) 63) % 256), Go.bits .or .u8 128 ((Go.bits .and .i32 (x5 / 64) 63) % 256), Go.bits .or .u8 128 ((Go.bits .and .i32 x5 63) % 256)] : List Int) : List Int)).bind fun y219 => (if x3.length + y219.length < 140737488355328 then (utf_Encode.l0 k (x3 ++ y219) x6 x7 (wrap64 (x8 + 1))) else (none)))))
end
def utf_Encode.f (k : Nat) (l0 : List Int) : Option (List Int) := utf_Encode.l0 k ([] : List Int) l0 (l0.length : Int) 0
theorem utf_Encode.mono_l : ∀ k, (∀ y0 y1 y2 y3, LeO (utf_Encode.l0 k y0 y1 y2 y3) (utf_Encode.l0 (k + 1) y0 y1 y2 y3)) ∧ (∀ y0 y1 y2 y3 y4, LeO (utf_Encode.j1 k y0 y1 y2 y3 y4) (utf_Encode.j1 (k + 1) y0 y1 y2 y3 y4))
 | 0 => ⟨fun _ _ _ _ r h => by simp [utf_Encode.l0] at h, fun _ _ _ _ _ r h => by simp [utf_Encode.j1] at h⟩
 | k + 1 => by
  obtain ⟨ih0, ih1⟩ := utf_Encode.mono_l k
  refine ⟨?_, ?_⟩
  ·intro y0 y1 y2 y3
   unfold utf_Encode.l0
   repeat' first
   | (with_reducible exact ih0 _ _ _ _)
   | (with_reducible exact ih1 _ _ _ _ _)
   | (with_reducible exact LeO.refl _)
   | (with_reducible exact LeO.none _)
   | (with_reducible refine LeO.ite ?_ ?_)
   | (with_reducible refine LeO.bind ?_ (fun _ => ?_))
   | exact ih0 _ _ _ _
   | exact ih1 _ _ _ _ _
   | exact LeO.none _
   | refine LeO.ite ?_ ?_
   | refine LeO.bind ?_ (fun _ => ?_)
  ·intro y0 y1 y2 y3 y4
   unfold utf_Encode.j1
   repeat' first
   | (with_reducible exact ih0 _ _ _ _)
   | (with_reducible exact ih1 _ _ _ _ _)
   | (with_reducible exact LeO.refl _)
   | (with_reducible exact LeO.none _)
   | (with_reducible refine LeO.ite ?_ ?_)
   | (with_reducible refine LeO.bind ?_ (fun _ => ?_))
   | exact ih0 _ _ _ _
   | exact ih1 _ _ _ _ _
   | exact LeO.none _
   | refine LeO.ite ?_ ?_
   | refine LeO.bind ?_ (fun _ => ?_)
theorem utf_Encode.mono : ∀ a0 k, LeO (utf_Encode.f k a0) (utf_Encode.f (k + 1) a0) := by
 intro a0 k
 obtain ⟨ih0, ih1⟩ := utf_Encode.mono_l k
 unfold utf_Encode.f
 repeat' first
   | (with_reducible exact ih0 _ _ _ _)
   | (with_reducible exact ih1 _ _ _ _ _)
   | (with_reducible exact LeO.refl _)
   | (with_reducible exact LeO.none _)
   | (with_reducible refine LeO.ite ?_ ?_)
   | (with_reducible refine LeO.bind ?_ (fun _ => ?_))
   | exact ih0 _ _ _ _
   | exact ih1 _ _ _ _ _
   | exact LeO.none _
   | refine LeO.ite ?_ ?_
   | refine LeO.bind ?_ (fun _ => ?_)
set_option maxHeartbeats 8000000 in
set_option maxRecDepth 100000 in
theorem utf_Encode.calls (k : Nat) (A0 : Option Addr) (c0 : Nat) (l0 : List Int) (r : List Int) (w : World) (hr0 : Kd.C (Kd.int .i32) w A0 l0.length l0) (hc0 : l0.length ≤ c0) (h : utf_Encode.f k l0 = some r) :
  Calls Tryd.prog 56 #[.slice A0 l0.length c0] w fun e w' => ∃ v0_ : Value, e = .returned (v0_) ∧ Kd.R (Kd.int .u8) 5 w' w.heap.size (fun _ => True) v0_ r ∧ Below w.heap.size w w' := by
 have HR0 := Aside0.mk hr0
 have HC0 := Aside0.mk hc0
 clear hr0 hc0
 have HB := Aside0.mk (Below.refl w.heap.size w)
 have H : (utf_Encode.l0 k ([] : List Int) l0 (l0.length : Int) 0) = some r := h
 clear h
 have H' := Aside0.mk H
 clear H
 go_enter Tryd.func56, Tryd.ntmps56
 go_wp2
 go_loopg [3, 8] k (fun kq v3 v8 w' => ∃ (x3_1 : List Int) (x8_1 : Int), v8 = .int .i64 x8_1 ∧ Aside0 (utf_Encode.l0 kq x3_1 l0 (l0.length : Int) x8_1 = some r) ∧ Aside0 (kq ≤ k) ∧ Aside0 (Kd.R (Kd.int .u8) 5 w' w.heap.size (fun _ => True) v3 x3_1) ∧ Aside0 (Below w.heap.size w w'))
 case atStart => exact ⟨(([] : List Int)), (0), (by first | rfl | (simp; done) | (simp [*]; done)), H', ⟨Nat.le_refl _⟩, ⟨by first | exact Kd.R_nil _ _ _ _ _ | exact Kd.N_nil _ _ _ _ _ | exact Kd.V_nil _ _ _ _ _ | exact Kd.Q_nil _ _ _ _ _ | exact Kd.S_nil _ _ _ _ _⟩, ⟨by repeat (first | (with_reducible first | exact HB.out | apply below_alloc | apply pw_below_drewN | apply below_drew1) | exact HB.out)⟩⟩
 case round =>
  clear H'
  obtain ⟨x3_1, x8_1, rfl, HA, HK1, HO_3, HB⟩ := hrel
  cases gk with
  | zero => exact absurd HA.out (by simp [utf_Encode.l0])
  | succ k1 =>
   have H := HA.out
   clear HA
   simp only [utf_Encode.l0] at H
   by_cases c2 : x8_1 < (l0.length : Int)
   ·rw [if_pos c2] at H
    have c2b0 : decide (x8_1 < (l0.length : Int)) = true := decide_eq_true c2
    clear c2
    by_cases c3 : 0 ≤ x8_1
    ·rw [if_pos c3] at H
     have c3b0 : decide (0 ≤ x8_1) = true := decide_eq_true c3
     clear c3
     by_cases c4 : x8_1 < (l0.length : Int)
     ·rw [if_pos c4] at H
      have c4b0 : decide (x8_1 < (l0.length : Int)) = true := decide_eq_true c4
      clear c4
      replace H := Option.bind_eq_some_iff.mp H
      obtain ⟨t203, A50, H⟩ := H
      replace H : (if t203 = true then (utf_Encode.j1 k1 x3_1 (rd l0 x8_1) l0 (l0.length : Int) x8_1) else (utf_Encode.j1 k1 x3_1 65533 l0 (l0.length : Int) x8_1)) = some r := H
      have A5 := Aside0.mk A50
      clear A50
      have HC6 := Aside0.mk H
      clear H
      have p202 : 0 ≤ (x8_1 : Int) := of_decide_eq_true (by first | (with_reducible assumption) | assumption)
      have q202 : x8_1 < (l0.length : Int) := of_decide_eq_true (by first | (with_reducible assumption) | assumption)
      obtain ⟨ad202, e202, hx202_0⟩ := Kd.at_int HR0.out x8_1 p202 q202
      cases e202
      replace hx202_0 := (HB.out.cell (World.block_lt_of_cell? w _ hx202_0)).trans hx202_0
      replace p202 := eq_true p202
      replace q202 := eq_true q202
      go_upto_if 14 with (first | ((with_reducible refine gate_callee (f := 79) rfl ?_); refine goesL_ (some 13) rfl rfl Tryd.func79 (by kernel_rfl) rfl #[.int .i32 (rd l0 x8_1)] rfl (by (try simp only [List.map_toArray, List.map_cons, List.map_nil]); first | done | rfl | (simp only [List.length_drop, List.length_take]; rfl)) ?_; (with_reducible refine (utf_Valid.calls (rd l0 x8_1) t203 _ A5.out).mono ?_); rintro e w' ⟨rfl, ⟨nd, rfl⟩⟩; refine ⟨_, rfl, ?_⟩))
      (try simp only [Act.put, List.setIfInBounds_toArray, List.set_cons_zero, List.set_cons_succ])
      go_cut [5] (fun v5 wc => ∃ (kq : Nat) (x5_5 : Int), v5 = .int .i32 x5_5 ∧ Aside0 (utf_Encode.j1 kq x3_1 x5_5 l0 (l0.length : Int) x8_1 = some r) ∧ Aside0 (kq ≤ k1) ∧ Aside0 (Kd.R (Kd.int .u8) 5 wc w.heap.size (fun _ => True) u3 x3_1) ∧ Aside0 (Below w.heap.size w wc))
      case first =>
       have H := HC6.out
       clear HC6
       by_cases c7 : t203 = true
       ·subst c7
        have H1 : (utf_Encode.j1 k1 x3_1 (rd l0 x8_1) l0 (l0.length : Int) x8_1) = some r := by rw [if_pos rfl] at H; exact H
        clear H
        have H := H1
        clear H1
        have H' := Aside0.mk H
        clear H
        go_wp2
        go_meet
        case rel => exact ⟨_, (rd l0 x8_1), (by first | rfl | (simp; done) | (simp [*]; done)), H', ⟨by have := HK1.out; first | omega | exact Nat.le_refl _⟩, ⟨by (with_reducible repeat (first | apply Kd.R_alloc | apply Kd.R_drewN | apply Kd.R_drew)); exact HO_3.out⟩, ⟨by repeat (first | (with_reducible first | exact HB.out | apply below_alloc | apply pw_below_drewN | apply below_drew1) | exact HB.out)⟩⟩
       ·replace c7 := Bool.eq_false_iff.mpr c7
        subst c7
        have H1 : (utf_Encode.j1 k1 x3_1 65533 l0 (l0.length : Int) x8_1) = some r := by rw [if_neg (show ¬ (false = true) by decide)] at H; exact H
        clear H
        have H := H1
        clear H1
        have H' := Aside0.mk H
        clear H
        go_wp2
        go_meet
        case rel => exact ⟨_, (65533), (by first | rfl | (simp; done) | (simp [*]; done)), H', ⟨by have := HK1.out; first | omega | exact Nat.le_refl _⟩, ⟨by (with_reducible repeat (first | apply Kd.R_alloc | apply Kd.R_drewN | apply Kd.R_drew)); exact HO_3.out⟩, ⟨by repeat (first | (with_reducible first | exact HB.out | apply below_alloc | apply pw_below_drewN | apply below_drew1) | exact HB.out)⟩⟩
      case rest =>
       clear HC6
       try clear c2
       try clear c2b0
       try clear p2
       try clear q2
       try clear hx2
       try clear c3
       try clear c3b0
       try clear c4
       try clear c4b0
       try clear c5
       try clear c7
       try clear hx202_0
       try clear p202
       try clear q202
       obtain ⟨kq, x5_5, rfl, HA, HJ5, HO_3, HB⟩ := hcut
       cases kq with
       | zero => exact absurd HA.out (by simp [utf_Encode.j1])
       | succ kj5 =>
        have H := HA.out
        clear HA
        simp only [utf_Encode.j1] at H
        by_cases c8 : x5_5 < 128
        ·rw [if_pos c8] at H
         have c8b0 : decide (x5_5 < 128) = true := decide_eq_true c8
         clear c8
         by_cases c9 : x3_1.length < 140737488355328
         ·rw [if_pos c9] at H
          have LMc9 := Aside0.mk c9
          clear c9
          obtain ⟨y204, hy204⟩ : ∃ y_ : List Int, y_ = (x3_1 ++ [(x5_5) % 256]) := ⟨_, rfl⟩
          replace H : (utf_Encode.l0 kj5 y204 l0 (l0.length : Int) (wrap64 (x8_1 + 1))) = some r := by first | (rw [hy204]; with_reducible exact H) | (have H2_ := (Option.bind_some _ _).symm.trans H; rw [hy204]; with_reducible exact H2_) | (have H2_ := (Option.bind_some _ _).symm.trans H; with_reducible exact H2_) | with_reducible exact H | (rw [hy204]; exact H) | exact H
          have Ny204 := Aside0.mk hy204
          clear hy204
          have H' := Aside0.mk H
          clear H
          go_wp2_with (first | ((with_reducible refine gate_builtin (b := .append) (xs := #[.tmp 39, .tmp 42]) rfl ?_); at_builtin; refine Kd.R_append (Kd.int .u8) (w0 := w) w.heap.size rfl (.tmp 39) (.tmp 42) 27 5 (.int .u8 0) 1 rfl Tryd.underlying27 info5 rfl (by decide) (by omega) u3 x3_1 ((x5_5) % 256) [.int .u8 ((x5_5) % 256)] (fun _ => True) (fun _ => False) rfl rfl ?aP (fun _ hk => hk.elim) ?aF ?aO ?aB ?aS ?aL ?_; (case aP => exact rfl); (case aB => exact (by repeat (first | (with_reducible first | exact HB.out | apply below_alloc | apply pw_below_drewN | apply below_drew1) | exact HB.out))); (case aF => exact (fun _ _ => trivial)); (case aO => exact (by (with_reducible repeat (first | apply Kd.R_alloc | apply Kd.R_drewN | apply Kd.R_drew)); exact HO_3.out)); (case aS => exact (below_size (by repeat (first | (with_reducible first | exact HB.out | apply below_alloc | apply pw_below_drewN | apply below_drew1) | exact HB.out)))); (case aL => have := LMc9.out; omega); intro v205 w10 ho hb hg hat; rw [← Ny204.out] at ho; have n0_ := Aside0.mk (hb); have n1_ := Aside0.mk (ho); clear HB; clear HO_3; have HB := n0_; have HO206 := n1_; clear n0_ n1_; clear ho hb hg hat))
          go_roundg kj5
          case measure => have := HK1.out; have := HJ5.out; omega
          case rel => exact ⟨(y204), (wrap64 (x8_1 + 1)), (by first | rfl | (simp; done) | (simp [*]; done)), H', ⟨by have := HK1.out; have := HJ5.out; omega⟩, ⟨by (with_reducible repeat (first | apply Kd.R_alloc | apply Kd.R_drewN | apply Kd.R_drew)); exact HO206.out⟩, ⟨by repeat (first | (with_reducible first | exact HB.out | apply below_alloc | apply pw_below_drewN | apply below_drew1) | exact HB.out)⟩⟩
         ·rw [if_neg c9] at H
          exact absurd H (by simp)
        ·rw [if_neg c8] at H
         have c8b0 : decide (x5_5 < 128) = false := decide_eq_false c8
         clear c8
         by_cases c11 : x5_5 < 2048
         ·rw [if_pos c11] at H
          have c11b0 : decide (x5_5 < 2048) = true := decide_eq_true c11
          clear c11
          obtain ⟨y207, hy207⟩ : ∃ y_ : List Int, y_ = (([Go.bits .or .u8 192 ((x5_5 / 64) % 256), Go.bits .or .u8 128 ((Go.bits .and .i32 x5_5 63) % 256)] : List Int)) := ⟨_, rfl⟩
          replace H : (if x3_1.length + y207.length < 140737488355328 then (utf_Encode.l0 kj5 (x3_1 ++ y207) l0 (l0.length : Int) (wrap64 (x8_1 + 1))) else (none)) = some r := by first | (rw [hy207]; with_reducible exact H) | (have H2_ := (Option.bind_some _ _).symm.trans H; rw [hy207]; with_reducible exact H2_) | (have H2_ := (Option.bind_some _ _).symm.trans H; with_reducible exact H2_) | with_reducible exact H | (rw [hy207]; exact H) | exact H
          have Ny207 := Aside0.mk hy207
          clear hy207
          by_cases c12 : x3_1.length + y207.length < 140737488355328
          ·rw [if_pos c12] at H
           have LMc12 := Aside0.mk c12
           clear c12
           obtain ⟨y210, hy210⟩ : ∃ y_ : List Int, y_ = (x3_1 ++ y207) := ⟨_, rfl⟩
           replace H : (utf_Encode.l0 kj5 y210 l0 (l0.length : Int) (wrap64 (x8_1 + 1))) = some r := by first | (rw [hy210]; with_reducible exact H) | (have H2_ := (Option.bind_some _ _).symm.trans H; rw [hy210]; with_reducible exact H2_) | (have H2_ := (Option.bind_some _ _).symm.trans H; with_reducible exact H2_) | with_reducible exact H | (rw [hy210]; exact H) | exact H
           have Ny210 := Aside0.mk hy210
           clear hy210
           have H' := Aside0.mk H
           clear H
           go_wp2_with (first | ((with_reducible refine gate_dst (N := 56) rfl ?_); refine Kd.R_lit (Kd.int .u8) _ 5 ?hg (N := 56) ?hd (xs := ([Go.bits .or .u8 192 ((x5_5 / 64) % 256), Go.bits .or .u8 128 ((Go.bits .and .i32 x5_5 63) % 256)] : List Int)) (inner := [.int .u8 (Go.bits .or .u8 192 ((x5_5 / 64) % 256)), .int .u8 (Go.bits .or .u8 128 ((Go.bits .and .i32 x5_5 63) % 256))]) (ok := fun _ => True) (okp := fun _ => True) ?hr ?hp (fun _ hk => hk) trivial (Below.refl _ _) (Nat.le_refl _) (by simp) ?_; (case hd => rfl); (case hg => rfl); (case hr => first | (go_simp; done) | (go_simp; rfl)); (case hp => exact (Reps.one (show Kd.M (Kd.int .u8) _ _ _ (Go.bits .or .u8 192 ((x5_5 / 64) % 256)) [.int .u8 (Go.bits .or .u8 192 ((x5_5 / 64) % 256))] from rfl) (Reps.one (show Kd.M (Kd.int .u8) _ _ _ (Go.bits .or .u8 128 ((Go.bits .and .i32 x5_5 63) % 256)) [.int .u8 (Go.bits .or .u8 128 ((Go.bits .and .i32 x5_5 63) % 256))] from rfl) (Reps.none _ _)))); intro v208 w13 ho14 hb hg_ hnew_; clear hg_ hnew_; (first | rw [← Ny207.out] at ho14 | (simp only [Int.reduceToNat] at ho14; rw [← Ny207.out] at ho14)); have n0_ := Aside0.mk (Kd.R_elder' (by (with_reducible repeat (first | apply Kd.R_alloc | apply Kd.R_drewN | apply Kd.R_drew)); exact HO_3.out) (Kd.R_base ho14) hb); have n1_ := Aside0.mk (Kd.R_lower (Kd.R_new' ho14 (Kd.R_lt (by (with_reducible repeat (first | apply Kd.R_alloc | apply Kd.R_drewN | apply Kd.R_drew)); exact HO_3.out))) (below_size (by repeat (first | (with_reducible first | exact HB.out | apply below_alloc | apply pw_below_drewN | apply below_drew1) | exact HB.out)))); have n2_ := Aside0.mk (below_step (by repeat (first | (with_reducible first | exact HB.out | apply below_alloc | apply pw_below_drewN | apply below_drew1) | exact HB.out)) hb); clear HO_3; clear HB; have HO_3 := n0_; have HO209 := n1_; have HB := n2_; clear n0_ n1_ n2_; clear hb ho14; obtain ⟨Ao16, co16, eo16⟩ := Kd.R_slice HO209.out; subst eo16) | ((with_reducible refine gate_builtin (b := .append) (xs := #[.tmp 47, .tmp 56]) rfl ?_); at_builtin; refine Kd.R_append_rows (Kd.int .u8) (w0 := w) w.heap.size rfl (.tmp 47) (.tmp 56) 27 5 (.int .u8 0) 1 rfl Tryd.underlying27 info5 rfl (by decide) (by omega) u3 x3_1 y207 _ _ _ (fun k_ => some k_ ≠ (.slice Ao16 y207.length co16 : Value).ownBlock) (fun _ => False) rfl rfl ?aO ?aR (fun _ _ h => h) (fun _ h => h.elim) ?aF ?aB ?aS ?aL ?_; (case aR => repeat (first | exact (Kd.R_reads' HO209.out).2.2 | (with_reducible refine Kd.C_alloc ?_ _) | (with_reducible refine Kd.C_drewN ?_ _) | (with_reducible refine Kd.C_drew ?_))); (case aB => exact (by repeat (first | (with_reducible first | exact HB.out | apply below_alloc | apply pw_below_drewN | apply below_drew1) | exact HB.out))); (case aF => exact (fun k_ hk => Kd.fresh' (Kd.R_lt (by (with_reducible repeat (first | apply Kd.R_alloc | apply Kd.R_drewN | apply Kd.R_drew)); exact HO209.out)) k_ hk)); (case aO => exact (by (with_reducible repeat (first | apply Kd.R_alloc | apply Kd.R_drewN | apply Kd.R_drew)); exact Kd.R_mono HO_3.out (fun _ hk => hk.2))); (case aS => exact (below_size (by repeat (first | (with_reducible first | exact HB.out | apply below_alloc | apply pw_below_drewN | apply below_drew1) | exact HB.out)))); (case aL => have := LMc12.out; omega); intro v211 w15 ho hb hg hat; rw [← Ny210.out] at ho; have n0_ := Aside0.mk (Kd.R_after (ok := (fun _ => True)) (by (with_reducible repeat (first | apply Kd.R_alloc | apply Kd.R_drewN | apply Kd.R_drew)); exact HO209.out) hg hat); have n1_ := Aside0.mk (hb); have n2_ := Aside0.mk (ho); clear HO209; clear HB; clear HO_3; have HO209 := n0_; have HB := n1_; have HO212 := n2_; clear n0_ n1_ n2_; clear ho hb hg hat))
           go_roundg kj5
           case measure => have := HK1.out; have := HJ5.out; omega
           case rel => exact ⟨(y210), (wrap64 (x8_1 + 1)), (by first | rfl | (simp; done) | (simp [*]; done)), H', ⟨by have := HK1.out; have := HJ5.out; omega⟩, ⟨by (with_reducible repeat (first | apply Kd.R_alloc | apply Kd.R_drewN | apply Kd.R_drew)); exact Kd.R_mono HO212.out (fun _ hk => trivial)⟩, ⟨by repeat (first | (with_reducible first | exact HB.out | apply below_alloc | apply pw_below_drewN | apply below_drew1) | exact HB.out)⟩⟩
          ·rw [if_neg c12] at H
           exact absurd H (by simp)
         ·rw [if_neg c11] at H
          have c11b0 : decide (x5_5 < 2048) = false := decide_eq_false c11
          clear c11
          by_cases c17 : x5_5 < 65536
          ·rw [if_pos c17] at H
           have c17b0 : decide (x5_5 < 65536) = true := decide_eq_true c17
           clear c17
           obtain ⟨y213, hy213⟩ : ∃ y_ : List Int, y_ = (([Go.bits .or .u8 224 ((x5_5 / 4096) % 256), Go.bits .or .u8 128 ((Go.bits .and .i32 (x5_5 / 64) 63) % 256), Go.bits .or .u8 128 ((Go.bits .and .i32 x5_5 63) % 256)] : List Int)) := ⟨_, rfl⟩
           replace H : (if x3_1.length + y213.length < 140737488355328 then (utf_Encode.l0 kj5 (x3_1 ++ y213) l0 (l0.length : Int) (wrap64 (x8_1 + 1))) else (none)) = some r := by first | (rw [hy213]; with_reducible exact H) | (have H2_ := (Option.bind_some _ _).symm.trans H; rw [hy213]; with_reducible exact H2_) | (have H2_ := (Option.bind_some _ _).symm.trans H; with_reducible exact H2_) | with_reducible exact H | (rw [hy213]; exact H) | exact H
           have Ny213 := Aside0.mk hy213
           clear hy213
           by_cases c18 : x3_1.length + y213.length < 140737488355328
           ·rw [if_pos c18] at H
            have LMc18 := Aside0.mk c18
            clear c18
            obtain ⟨y216, hy216⟩ : ∃ y_ : List Int, y_ = (x3_1 ++ y213) := ⟨_, rfl⟩
            replace H : (utf_Encode.l0 kj5 y216 l0 (l0.length : Int) (wrap64 (x8_1 + 1))) = some r := by first | (rw [hy216]; with_reducible exact H) | (have H2_ := (Option.bind_some _ _).symm.trans H; rw [hy216]; with_reducible exact H2_) | (have H2_ := (Option.bind_some _ _).symm.trans H; with_reducible exact H2_) | with_reducible exact H | (rw [hy216]; exact H) | exact H
            have Ny216 := Aside0.mk hy216
            clear hy216
            have H' := Aside0.mk H
            clear H
            go_wp2_with (first | ((with_reducible refine gate_dst (N := 75) rfl ?_); refine Kd.R_lit (Kd.int .u8) _ 5 ?hg (N := 75) ?hd (xs := ([Go.bits .or .u8 224 ((x5_5 / 4096) % 256), Go.bits .or .u8 128 ((Go.bits .and .i32 (x5_5 / 64) 63) % 256), Go.bits .or .u8 128 ((Go.bits .and .i32 x5_5 63) % 256)] : List Int)) (inner := [.int .u8 (Go.bits .or .u8 224 ((x5_5 / 4096) % 256)), .int .u8 (Go.bits .or .u8 128 ((Go.bits .and .i32 (x5_5 / 64) 63) % 256)), .int .u8 (Go.bits .or .u8 128 ((Go.bits .and .i32 x5_5 63) % 256))]) (ok := fun _ => True) (okp := fun _ => True) ?hr ?hp (fun _ hk => hk) trivial (Below.refl _ _) (Nat.le_refl _) (by simp) ?_; (case hd => rfl); (case hg => rfl); (case hr => first | (go_simp; done) | (go_simp; rfl)); (case hp => exact (Reps.one (show Kd.M (Kd.int .u8) _ _ _ (Go.bits .or .u8 224 ((x5_5 / 4096) % 256)) [.int .u8 (Go.bits .or .u8 224 ((x5_5 / 4096) % 256))] from rfl) (Reps.one (show Kd.M (Kd.int .u8) _ _ _ (Go.bits .or .u8 128 ((Go.bits .and .i32 (x5_5 / 64) 63) % 256)) [.int .u8 (Go.bits .or .u8 128 ((Go.bits .and .i32 (x5_5 / 64) 63) % 256))] from rfl) (Reps.one (show Kd.M (Kd.int .u8) _ _ _ (Go.bits .or .u8 128 ((Go.bits .and .i32 x5_5 63) % 256)) [.int .u8 (Go.bits .or .u8 128 ((Go.bits .and .i32 x5_5 63) % 256))] from rfl) (Reps.none _ _))))); intro v214 w19 ho20 hb hg_ hnew_; clear hg_ hnew_; (first | rw [← Ny213.out] at ho20 | (simp only [Int.reduceToNat] at ho20; rw [← Ny213.out] at ho20)); have n0_ := Aside0.mk (Kd.R_elder' (by (with_reducible repeat (first | apply Kd.R_alloc | apply Kd.R_drewN | apply Kd.R_drew)); exact HO_3.out) (Kd.R_base ho20) hb); have n1_ := Aside0.mk (Kd.R_lower (Kd.R_new' ho20 (Kd.R_lt (by (with_reducible repeat (first | apply Kd.R_alloc | apply Kd.R_drewN | apply Kd.R_drew)); exact HO_3.out))) (below_size (by repeat (first | (with_reducible first | exact HB.out | apply below_alloc | apply pw_below_drewN | apply below_drew1) | exact HB.out)))); have n2_ := Aside0.mk (below_step (by repeat (first | (with_reducible first | exact HB.out | apply below_alloc | apply pw_below_drewN | apply below_drew1) | exact HB.out)) hb); clear HO_3; clear HB; have HO_3 := n0_; have HO215 := n1_; have HB := n2_; clear n0_ n1_ n2_; clear hb ho20; obtain ⟨Ao22, co22, eo22⟩ := Kd.R_slice HO215.out; subst eo22) | ((with_reducible refine gate_builtin (b := .append) (xs := #[.tmp 61, .tmp 75]) rfl ?_); at_builtin; refine Kd.R_append_rows (Kd.int .u8) (w0 := w) w.heap.size rfl (.tmp 61) (.tmp 75) 27 5 (.int .u8 0) 1 rfl Tryd.underlying27 info5 rfl (by decide) (by omega) u3 x3_1 y213 _ _ _ (fun k_ => some k_ ≠ (.slice Ao22 y213.length co22 : Value).ownBlock) (fun _ => False) rfl rfl ?aO ?aR (fun _ _ h => h) (fun _ h => h.elim) ?aF ?aB ?aS ?aL ?_; (case aR => repeat (first | exact (Kd.R_reads' HO215.out).2.2 | (with_reducible refine Kd.C_alloc ?_ _) | (with_reducible refine Kd.C_drewN ?_ _) | (with_reducible refine Kd.C_drew ?_))); (case aB => exact (by repeat (first | (with_reducible first | exact HB.out | apply below_alloc | apply pw_below_drewN | apply below_drew1) | exact HB.out))); (case aF => exact (fun k_ hk => Kd.fresh' (Kd.R_lt (by (with_reducible repeat (first | apply Kd.R_alloc | apply Kd.R_drewN | apply Kd.R_drew)); exact HO215.out)) k_ hk)); (case aO => exact (by (with_reducible repeat (first | apply Kd.R_alloc | apply Kd.R_drewN | apply Kd.R_drew)); exact Kd.R_mono HO_3.out (fun _ hk => hk.2))); (case aS => exact (below_size (by repeat (first | (with_reducible first | exact HB.out | apply below_alloc | apply pw_below_drewN | apply below_drew1) | exact HB.out)))); (case aL => have := LMc18.out; omega); intro v217 w21 ho hb hg hat; rw [← Ny216.out] at ho; have n0_ := Aside0.mk (Kd.R_after (ok := (fun _ => True)) (by (with_reducible repeat (first | apply Kd.R_alloc | apply Kd.R_drewN | apply Kd.R_drew)); exact HO215.out) hg hat); have n1_ := Aside0.mk (hb); have n2_ := Aside0.mk (ho); clear HO215; clear HB; clear HO_3; have HO215 := n0_; have HB := n1_; have HO218 := n2_; clear n0_ n1_ n2_; clear ho hb hg hat))
            go_roundg kj5
            case measure => have := HK1.out; have := HJ5.out; omega
            case rel => exact ⟨(y216), (wrap64 (x8_1 + 1)), (by first | rfl | (simp; done) | (simp [*]; done)), H', ⟨by have := HK1.out; have := HJ5.out; omega⟩, ⟨by (with_reducible repeat (first | apply Kd.R_alloc | apply Kd.R_drewN | apply Kd.R_drew)); exact Kd.R_mono HO218.out (fun _ hk => trivial)⟩, ⟨by repeat (first | (with_reducible first | exact HB.out | apply below_alloc | apply pw_below_drewN | apply below_drew1) | exact HB.out)⟩⟩
           ·rw [if_neg c18] at H
            exact absurd H (by simp)
          ·rw [if_neg c17] at H
           have c17b0 : decide (x5_5 < 65536) = false := decide_eq_false c17
           clear c17
           obtain ⟨y219, hy219⟩ : ∃ y_ : List Int, y_ = (([Go.bits .or .u8 240 ((x5_5 / 262144) % 256), Go.bits .or .u8 128 ((Go.bits .and .i32 (x5_5 / 4096) 63) % 256), Go.bits .or .u8 128 ((Go.bits .and .i32 (x5_5 / 64) 63) % 256), Go.bits .or .u8 128 ((Go.bits .and .i32 x5_5 63) % 256)] : List Int)) := ⟨_, rfl⟩
           replace H : (if x3_1.length + y219.length < 140737488355328 then (utf_Encode.l0 kj5 (x3_1 ++ y219) l0 (l0.length : Int) (wrap64 (x8_1 + 1))) else (none)) = some r := by first | (rw [hy219]; with_reducible exact H) | (have H2_ := (Option.bind_some _ _).symm.trans H; rw [hy219]; with_reducible exact H2_) | (have H2_ := (Option.bind_some _ _).symm.trans H; with_reducible exact H2_) | with_reducible exact H | (rw [hy219]; exact H) | exact H
           have Ny219 := Aside0.mk hy219
           clear hy219
           by_cases c23 : x3_1.length + y219.length < 140737488355328
           ·rw [if_pos c23] at H
            have LMc23 := Aside0.mk c23
            clear c23
            obtain ⟨y222, hy222⟩ : ∃ y_ : List Int, y_ = (x3_1 ++ y219) := ⟨_, rfl⟩
            replace H : (utf_Encode.l0 kj5 y222 l0 (l0.length : Int) (wrap64 (x8_1 + 1))) = some r := by first | (rw [hy222]; with_reducible exact H) | (have H2_ := (Option.bind_some _ _).symm.trans H; rw [hy222]; with_reducible exact H2_) | (have H2_ := (Option.bind_some _ _).symm.trans H; with_reducible exact H2_) | with_reducible exact H | (rw [hy222]; exact H) | exact H
            have Ny222 := Aside0.mk hy222
            clear hy222
            have H' := Aside0.mk H
            clear H
            go_wp2_with (first | ((with_reducible refine gate_dst (N := 34) rfl ?_); refine Kd.R_lit (Kd.int .u8) _ 5 ?hg (N := 34) ?hd (xs := ([Go.bits .or .u8 240 ((x5_5 / 262144) % 256), Go.bits .or .u8 128 ((Go.bits .and .i32 (x5_5 / 4096) 63) % 256), Go.bits .or .u8 128 ((Go.bits .and .i32 (x5_5 / 64) 63) % 256), Go.bits .or .u8 128 ((Go.bits .and .i32 x5_5 63) % 256)] : List Int)) (inner := [.int .u8 (Go.bits .or .u8 240 ((x5_5 / 262144) % 256)), .int .u8 (Go.bits .or .u8 128 ((Go.bits .and .i32 (x5_5 / 4096) 63) % 256)), .int .u8 (Go.bits .or .u8 128 ((Go.bits .and .i32 (x5_5 / 64) 63) % 256)), .int .u8 (Go.bits .or .u8 128 ((Go.bits .and .i32 x5_5 63) % 256))]) (ok := fun _ => True) (okp := fun _ => True) ?hr ?hp (fun _ hk => hk) trivial (Below.refl _ _) (Nat.le_refl _) (by simp) ?_; (case hd => rfl); (case hg => rfl); (case hr => first | (go_simp; done) | (go_simp; rfl)); (case hp => exact (Reps.one (show Kd.M (Kd.int .u8) _ _ _ (Go.bits .or .u8 240 ((x5_5 / 262144) % 256)) [.int .u8 (Go.bits .or .u8 240 ((x5_5 / 262144) % 256))] from rfl) (Reps.one (show Kd.M (Kd.int .u8) _ _ _ (Go.bits .or .u8 128 ((Go.bits .and .i32 (x5_5 / 4096) 63) % 256)) [.int .u8 (Go.bits .or .u8 128 ((Go.bits .and .i32 (x5_5 / 4096) 63) % 256))] from rfl) (Reps.one (show Kd.M (Kd.int .u8) _ _ _ (Go.bits .or .u8 128 ((Go.bits .and .i32 (x5_5 / 64) 63) % 256)) [.int .u8 (Go.bits .or .u8 128 ((Go.bits .and .i32 (x5_5 / 64) 63) % 256))] from rfl) (Reps.one (show Kd.M (Kd.int .u8) _ _ _ (Go.bits .or .u8 128 ((Go.bits .and .i32 x5_5 63) % 256)) [.int .u8 (Go.bits .or .u8 128 ((Go.bits .and .i32 x5_5 63) % 256))] from rfl) (Reps.none _ _)))))); intro v220 w24 ho25 hb hg_ hnew_; clear hg_ hnew_; (first | rw [← Ny219.out] at ho25 | (simp only [Int.reduceToNat] at ho25; rw [← Ny219.out] at ho25)); have n0_ := Aside0.mk (Kd.R_elder' (by (with_reducible repeat (first | apply Kd.R_alloc | apply Kd.R_drewN | apply Kd.R_drew)); exact HO_3.out) (Kd.R_base ho25) hb); have n1_ := Aside0.mk (Kd.R_lower (Kd.R_new' ho25 (Kd.R_lt (by (with_reducible repeat (first | apply Kd.R_alloc | apply Kd.R_drewN | apply Kd.R_drew)); exact HO_3.out))) (below_size (by repeat (first | (with_reducible first | exact HB.out | apply below_alloc | apply pw_below_drewN | apply below_drew1) | exact HB.out)))); have n2_ := Aside0.mk (below_step (by repeat (first | (with_reducible first | exact HB.out | apply below_alloc | apply pw_below_drewN | apply below_drew1) | exact HB.out)) hb); clear HO_3; clear HB; have HO_3 := n0_; have HO221 := n1_; have HB := n2_; clear n0_ n1_ n2_; clear hb ho25; obtain ⟨Ao27, co27, eo27⟩ := Kd.R_slice HO221.out; subst eo27) | ((with_reducible refine gate_builtin (b := .append) (xs := #[.tmp 15, .tmp 34]) rfl ?_); at_builtin; refine Kd.R_append_rows (Kd.int .u8) (w0 := w) w.heap.size rfl (.tmp 15) (.tmp 34) 27 5 (.int .u8 0) 1 rfl Tryd.underlying27 info5 rfl (by decide) (by omega) u3 x3_1 y219 _ _ _ (fun k_ => some k_ ≠ (.slice Ao27 y219.length co27 : Value).ownBlock) (fun _ => False) rfl rfl ?aO ?aR (fun _ _ h => h) (fun _ h => h.elim) ?aF ?aB ?aS ?aL ?_; (case aR => repeat (first | exact (Kd.R_reads' HO221.out).2.2 | (with_reducible refine Kd.C_alloc ?_ _) | (with_reducible refine Kd.C_drewN ?_ _) | (with_reducible refine Kd.C_drew ?_))); (case aB => exact (by repeat (first | (with_reducible first | exact HB.out | apply below_alloc | apply pw_below_drewN | apply below_drew1) | exact HB.out))); (case aF => exact (fun k_ hk => Kd.fresh' (Kd.R_lt (by (with_reducible repeat (first | apply Kd.R_alloc | apply Kd.R_drewN | apply Kd.R_drew)); exact HO221.out)) k_ hk)); (case aO => exact (by (with_reducible repeat (first | apply Kd.R_alloc | apply Kd.R_drewN | apply Kd.R_drew)); exact Kd.R_mono HO_3.out (fun _ hk => hk.2))); (case aS => exact (below_size (by repeat (first | (with_reducible first | exact HB.out | apply below_alloc | apply pw_below_drewN | apply below_drew1) | exact HB.out)))); (case aL => have := LMc23.out; omega); intro v223 w26 ho hb hg hat; rw [← Ny222.out] at ho; have n0_ := Aside0.mk (Kd.R_after (ok := (fun _ => True)) (by (with_reducible repeat (first | apply Kd.R_alloc | apply Kd.R_drewN | apply Kd.R_drew)); exact HO221.out) hg hat); have n1_ := Aside0.mk (hb); have n2_ := Aside0.mk (ho); clear HO221; clear HB; clear HO_3; have HO221 := n0_; have HB := n1_; have HO224 := n2_; clear n0_ n1_ n2_; clear ho hb hg hat))
            go_roundg kj5
            case measure => have := HK1.out; have := HJ5.out; omega
            case rel => exact ⟨(y222), (wrap64 (x8_1 + 1)), (by first | rfl | (simp; done) | (simp [*]; done)), H', ⟨by have := HK1.out; have := HJ5.out; omega⟩, ⟨by (with_reducible repeat (first | apply Kd.R_alloc | apply Kd.R_drewN | apply Kd.R_drew)); exact Kd.R_mono HO224.out (fun _ hk => trivial)⟩, ⟨by repeat (first | (with_reducible first | exact HB.out | apply below_alloc | apply pw_below_drewN | apply below_drew1) | exact HB.out)⟩⟩
           ·rw [if_neg c23] at H
            exact absurd H (by simp)
     ·rw [if_neg c4] at H
      exact absurd H (by simp)
    ·rw [if_neg c3] at H
     exact absurd H (by simp)
   ·rw [if_neg c2] at H
    have c2b0 : decide (x8_1 < (l0.length : Int)) = false := decide_eq_false c2
    clear c2
    obtain rfl := Option.some.inj H
    go_wp2
    go_ret
    exact ⟨_, by first | rfl | (simp [errW_none, errW_some] <;> rfl) | (simp [*, errW_none, errW_some] <;> rfl), by (with_reducible repeat (first | apply Kd.R_alloc | apply Kd.R_drewN | apply Kd.R_drew)); exact HO_3.out, by repeat (first | (with_reducible first | exact HB.out | apply below_alloc | apply pw_below_drewN | apply below_drew1) | exact HB.out)⟩
end Go.Proofs.YtiggjbclbdikmaaDoor.X
namespace Go.Proofs.YtiggjbclbdikmaaDoor.En
set_option linter.unusedVariables false
set_option linter.unusedSimpArgs false
open Go.RowKit Go.Proofs.YtiggjbclbdikmaaDoorW.PrintWords Go.Proofs.YtiggjbclbdikmaaDoor.Hp
def vld (r : Int) : Bool := decide (0 ≤ r ∧ r ≤ 1114111 ∧ (r < 55296 ∨ 57343 < r))
def encv (r : Int) : List Int :=
  if r < 128 then [r] else if r < 2048 then [192 + r / 64, 128 + r % 64]
  else if r < 65536 then [224 + r / 4096, 128 + r / 64 % 64, 128 + r % 64]
  else [240 + r / 262144, 128 + r / 4096 % 64, 128 + r / 64 % 64, 128 + r % 64]
def fixr (r : Int) : Int := if vld r = true then r else 65533
def enc1 (r : Int) : List Int := encv (fixr r)
def enc : List Int → List Int
  | [] => []
  | r :: l => enc1 r ++ enc l
theorem encv_len (r : Int) : 1 ≤ (encv r).length ∧ (encv r).length ≤ 4 := by
  unfold encv; split <;> (try split) <;> (try split) <;> simp
theorem enc_len : ∀ l, l.length ≤ (enc l).length ∧ (enc l).length ≤ 4 * l.length
  | [] => by simp [enc]
  | r :: l => by
    have := enc_len l
    have h := encv_len (fixr r)
    simp only [enc, enc1, List.length_append, List.length_cons]
    omega
theorem enc_append : ∀ a b, enc (a ++ b) = enc a ++ enc b
  | [], b => rfl
  | r :: a, b => by simp [enc, enc_append a b]
theorem fixr_ok (r : Int) : 0 ≤ fixr r ∧ fixr r ≤ 1114111 ∧ vld (fixr r) = true := by
  unfold fixr
  split
  · rename_i h
    have h2 := h
    simp only [vld, decide_eq_true_eq] at h2
    exact ⟨h2.1, h2.2.1, h⟩
  · exact ⟨by decide, by decide, by decide⟩
theorem i32_and63 (x : Int) (h0 : 0 ≤ x) (h1 : x < 2147483648) : Go.bits .and .i32 x 63 = x % 64 := bits_mask .i32 31 (by decide) wraps_i32 6 (by decide) x h0 (by omega)
theorem valid_pure (r : Int) : X.utf_Valid.f r = some (vld r) := by
  unfold X.utf_Valid.f vld
  split
  · split
    · split
      · congr 1; symm; rw [decide_eq_true_eq]; omega
      · congr 1; rw [decide_eq_decide]; omega
    · congr 1; symm; rw [decide_eq_false_iff_not]; omega
  · congr 1; symm; rw [decide_eq_false_iff_not]; omega
theorem ref_valid (r : Int) : X.tremaref01_Valid.f r = some (vld r) := by
  unfold X.tremaref01_Valid.f vld
  split
  · split
    · split
      · congr 1
        rw [Bool.eq_iff_iff]
        simp only [Bool.not_eq_true', decide_eq_false_iff_not, decide_eq_true_eq]; omega
      · congr 1; symm; simp only [Bool.not_false, decide_eq_true_eq]; omega
    · congr 1; symm; rw [decide_eq_false_iff_not]; omega
  · congr 1; symm; rw [decide_eq_false_iff_not]; omega
theorem j1_pure (k : Nat) (acc : List Int) (r : Int) (l : List Int) (n i : Int) (h0 : 0 ≤ r) (h1 : r ≤ 1114111) (ha : acc.length + 4 < 140737488355328) :
    X.utf_Encode.j1 (k + 1) acc r l n i = X.utf_Encode.l0 k (acc ++ encv r) l n (wrap64 (i + 1)) := by
  simp only [X.utf_Encode.j1, encv]
  split
  · rw [if_pos (by omega), show r % 256 = r by omega]
  · split
    · simp only [Option.bind_some, List.length_cons, List.length_nil]
      rw [if_pos (by omega), u8_or192 _ (by omega) (by omega), i32_and63 r h0 (by omega), u8_or128 _ (by omega) (by omega), show r / 64 % 256 = r / 64 by omega, show r % 64 % 256 = r % 64 by omega]
    · split
      · simp only [Option.bind_some, List.length_cons, List.length_nil]
        rw [if_pos (by omega), u8_or224 _ (by omega) (by omega), i32_and63 r h0 (by omega), i32_and63 (r / 64) (by omega) (by omega), u8_or128 _ (by omega) (by omega), u8_or128 _ (by omega) (by omega), show r / 4096 % 256 = r / 4096 by omega, show r % 64 % 256 = r % 64 by omega, show r / 64 % 64 % 256 = r / 64 % 64 by omega]
      · simp only [Option.bind_some, List.length_cons, List.length_nil]
        rw [if_pos (by omega), u8_or240 _ (by omega) (by omega), i32_and63 r h0 (by omega), i32_and63 (r / 64) (by omega) (by omega), i32_and63 (r / 4096) (by omega) (by omega), u8_or128 _ (by omega) (by omega), u8_or128 _ (by omega) (by omega), u8_or128 _ (by omega) (by omega), show r / 262144 % 256 = r / 262144 by omega, show r / 4096 % 64 % 256 = r / 4096 % 64 by omega, show r % 64 % 256 = r % 64 by omega, show r / 64 % 64 % 256 = r / 64 % 64 by omega]
theorem enc_loop (l : List Int) (hl : l.length * 4 ≤ 140737488351232) : ∀ (d i k : Nat) (acc : List Int), l.length - i = d → i ≤ l.length → 2 * d < k → acc.length ≤ 4 * i →
    X.utf_Encode.l0 k acc l (l.length : Int) i = some (acc ++ enc (l.drop i)) := by
  intro d
  induction d with
  | zero =>
    intro i k acc hd hi hk ha
    obtain ⟨k, rfl⟩ : ∃ q, k = q + 1 := ⟨k - 1, by omega⟩
    simp only [X.utf_Encode.l0]
    rw [if_neg (by omega), List.drop_eq_nil_of_le (by omega)]
    simp [enc]
  | succ d ih =>
    intro i k acc hd hi hk ha
    obtain ⟨k, rfl⟩ : ∃ q, k = q + 2 := ⟨k - 2, by omega⟩
    have hlt : i < l.length := by omega
    simp only [X.utf_Encode.l0]
    rw [if_pos (by omega), if_pos (by omega), if_pos (by omega), Ux.rd_at l i hlt, valid_pure]
    simp only [Option.bind_some]
    have hw : wrap64 ((i : Int) + 1) = ((i + 1 : Nat) : Int) := by unfold wrap64; omega
    have hf := fixr_ok l[i]
    have e : (if vld l[i] = true then X.utf_Encode.j1 (k + 1) acc l[i] l (l.length : Int) i else X.utf_Encode.j1 (k + 1) acc 65533 l (l.length : Int) i) = X.utf_Encode.j1 (k + 1) acc (fixr l[i]) l (l.length : Int) i := by
      unfold fixr
      split <;> rfl
    rw [e, j1_pure k acc _ l _ _ hf.1 hf.2.1 (by omega), hw]
    have hn := encv_len (fixr l[i])
    rw [ih (i + 1) k _ (by omega) (by omega) (by omega) (by rw [List.length_append]; omega), List.drop_eq_getElem_cons hlt]
    simp [enc, enc1]
theorem enc_pure (l : List Int) (hl : l.length * 4 ≤ 140737488351232) : X.utf_Encode.f (2 * l.length + 1) l = some (enc l) := by
  have := enc_loop l hl l.length 0 (2 * l.length + 1) [] (by omega) (by omega) (by omega) (by simp)
  simpa [X.utf_Encode.f] using this
theorem w32 (x : Int) (h0 : -2147483648 ≤ x) (h1 : x < 2147483648) : wrap32 x = x := by unfold wrap32; omega
theorem put_pure (k : Nat) (acc : List Int) (r : Int) (ha : acc.length + 4 < 140737488355328) : X.tremaref01_Put.f (k + 1) acc r = some (acc ++ enc1 r) := by
  have key : ∀ r : Int, 0 ≤ r → r ≤ 1114111 → X.tremaref01_Put.j0 (k + 1) acc r = some (acc ++ encv r) := by
    intro r h0 h1
    simp only [X.tremaref01_Put.j0, encv]
    have t1 : Int.tdiv r 64 = r / 64 := Int.tdiv_eq_ediv_of_nonneg h0
    have t2 : Int.tdiv r 4096 = r / 4096 := Int.tdiv_eq_ediv_of_nonneg h0
    have t3 : Int.tdiv r 262144 = r / 262144 := Int.tdiv_eq_ediv_of_nonneg h0
    have m1 : Int.tmod r 64 = r % 64 := Int.tmod_eq_emod_of_nonneg h0
    have m2 : Int.tmod (r / 64) 64 = r / 64 % 64 := Int.tmod_eq_emod_of_nonneg (by omega)
    have m3 : Int.tmod (r / 4096) 64 = r / 4096 % 64 := Int.tmod_eq_emod_of_nonneg (by omega)
    split
    · rw [if_pos (by omega), show r % 256 = r by omega]
    · split
      · simp only [Option.bind_some, List.length_cons, List.length_nil]
        rw [if_pos (by omega), t1, w32 (r / 64) (by omega) (by omega), m1, w32 _ (by omega) (by omega), w32 _ (by omega) (by omega), show (192 + r / 64) % 256 = 192 + r / 64 by omega, show (128 + r % 64) % 256 = 128 + r % 64 by omega]
      · split
        · simp only [Option.bind_some, List.length_cons, List.length_nil]
          rw [if_pos (by omega), t1, t2, w32 (r / 64) (by omega) (by omega), w32 (r / 4096) (by omega) (by omega), m1, m2, w32 (224 + _) (by omega) (by omega), w32 (128 + r / 64 % 64) (by omega) (by omega), w32 (128 + r % 64) (by omega) (by omega), show (224 + r / 4096) % 256 = 224 + r / 4096 by omega, show (128 + r % 64) % 256 = 128 + r % 64 by omega, show (128 + r / 64 % 64) % 256 = 128 + r / 64 % 64 by omega]
        · simp only [Option.bind_some, List.length_cons, List.length_nil]
          rw [if_pos (by omega), t1, t2, t3, w32 (r / 64) (by omega) (by omega), w32 (r / 4096) (by omega) (by omega), w32 (r / 262144) (by omega) (by omega), m1, m2, m3, w32 (240 + _) (by omega) (by omega), w32 (128 + r / 64 % 64) (by omega) (by omega), w32 (128 + r / 4096 % 64) (by omega) (by omega), w32 (128 + r % 64) (by omega) (by omega), show (240 + r / 262144) % 256 = 240 + r / 262144 by omega, show (128 + r % 64) % 256 = 128 + r % 64 by omega, show (128 + r / 64 % 64) % 256 = 128 + r / 64 % 64 by omega, show (128 + r / 4096 % 64) % 256 = 128 + r / 4096 % 64 by omega]
  unfold X.tremaref01_Put.f
  rw [ref_valid]
  simp only [Option.bind_some, enc1]
  have hf := fixr_ok r
  rw [← key _ hf.1 hf.2.1]
  unfold fixr
  split <;> rfl
theorem ref_loop (l : List Int) (hl : l.length * 4 ≤ 140737488351232) : ∀ (d i k : Nat) (acc : List Int), l.length - i = d → i ≤ l.length → d + 1 < k → acc.length ≤ 4 * i →
    X.tremaref01_Encode.l0 k l acc i = some (acc ++ enc (l.drop i)) := by
  intro d
  induction d with
  | zero =>
    intro i k acc hd hi hk ha
    obtain ⟨k, rfl⟩ : ∃ q, k = q + 1 := ⟨k - 1, by omega⟩
    simp only [X.tremaref01_Encode.l0]
    rw [if_neg (by omega), List.drop_eq_nil_of_le (by omega)]
    simp [enc]
  | succ d ih =>
    intro i k acc hd hi hk ha
    obtain ⟨k, rfl⟩ : ∃ q, k = q + 2 := ⟨k - 2, by omega⟩
    have hlt : i < l.length := by omega
    rw [X.tremaref01_Encode.l0]
    rw [if_pos (by omega), if_pos (by omega), Ux.rd_at l i hlt, put_pure k acc _ (by omega)]
    have hw : wrap64 ((i : Int) + 1) = ((i + 1 : Nat) : Int) := by unfold wrap64; omega
    have hn : 1 ≤ (enc1 l[i]).length ∧ (enc1 l[i]).length ≤ 4 := encv_len (fixr l[i])
    have h := ih (i + 1) (k + 1) (acc ++ enc1 l[i]) (by omega) (by omega) (by omega) (by rw [List.length_append]; omega)
    rw [hw, Option.bind_some, h, List.drop_eq_getElem_cons hlt]
    simp [enc]
theorem ref_pure (l : List Int) (hl : l.length * 4 ≤ 140737488351232) : X.tremaref01_Encode.f (l.length + 2) l = some (enc l) := by
  have := ref_loop l hl l.length 0 (l.length + 2) [] (by omega) (by omega) (by omega) (by simp)
  simpa [X.tremaref01_Encode.f] using this
theorem enc_byte (l : List Int) : Ux.Bytes (enc l) := by
  induction l with
  | nil => simp [enc, Ux.Bytes]
  | cons r l ih =>
    intro x hx
    simp only [enc] at hx
    rcases List.mem_append.1 hx with hx | hx
    · have hf := fixr_ok r
      unfold enc1 encv at hx
      split at hx
      · simp at hx; omega
      · split at hx
        · simp at hx; omega
        · split at hx <;> simp at hx <;> omega
    · exact ih x hx
end Go.Proofs.YtiggjbclbdikmaaDoor.En
namespace Go.Proofs.YtiggjbclbdikmaaDoor.Sx
set_option linter.unusedVariables false
set_option linter.unusedSimpArgs false
open Go.RowKit Go.Proofs.YtiggjbclbdikmaaDoorW.PrintWords Go.Proofs.YtiggjbclbdikmaaDoor.Hp
theorem reads_string {P : Program} {w : World} {src dst e : TypeId} {A : Option Addr} {n c : Nat} {xs : List Int} (hs : P.underlying src = some (.slice e)) (he : P.underlying e = some (.int .u8)) (hd : P.underlying dst = some .string) (h : ReadsInt w .u8 A n xs) :
    (convert src dst (.slice A n c)).run P w = .ok (.string (strOfNums xs)) w := by
  have hl := h.1
  cases A with
  | none =>
    have h0 : n = 0 := by
      rcases Nat.eq_zero_or_pos n with h0 | h0
      · exact h0
      · obtain ⟨ad, e1, _⟩ := h.2.2 h0; cases e1
    obtain rfl : xs = [] := List.eq_nil_of_length_eq_zero (by omega)
    exact run_convert_bytes_nil w src e hs he n c dst hd
  | some a =>
    have hload : (loadCells a n).run P w = .ok (xs.map (Value.int .u8)).toArray w := by
      have := run_loadCells_list (P := P) w a (xs.map (Value.int .u8)) (fun j v hj => by
        have hjl : j < xs.length := by
          rcases Nat.lt_or_ge j xs.length with h | h
          · exact h
          · simp [List.getElem?_eq_none (show (xs.map (Value.int .u8)).length ≤ j by simpa using h)] at hj
        obtain ⟨ad, e1, hc⟩ := h.2.2 (by omega)
        cases e1
        rw [hc j (by omega)]
        simp [List.getElem?_eq_getElem hjl] at hj
        subst hj
        simp [List.getD, List.getElem?_eq_getElem hjl])
      simpa [hl] using this
    rw [run_convert_bytes_string w src dst e _ n c hs he hd, run_bytesToString w _ n c xs hload, foldl_push_bytes]
    simp [strOfNums, ByteArray.empty, ByteArray.emptyWithCapacity]
    rfl
end Go.Proofs.YtiggjbclbdikmaaDoor.Sx
namespace Go.Proofs.YtiggjbclbdikmaaDoor.Ud
set_option linter.unusedVariables false
set_option linter.unusedSimpArgs false
open Go.RowKit Go.Proofs.YtiggjbclbdikmaaDoorW.PrintWords Go.Proofs.YtiggjbclbdikmaaDoor.Hp Go.Proofs.YtiggjbclbdikmaaDoor.X Go.Proofs.YtiggjbclbdikmaaDoor.Ux
theorem full_len (b : List Int) : (full b).length ≤ b.length := by
  have := dc_len b 0
  unfold full rest1
  rw [List.length_append]
  split
  · simp; omega
  · rename_i h
    have : (dc b 0).2.1.length ≠ 0 := fun e => h (List.eq_nil_of_length_eq_zero e)
    simp; omega
end Go.Proofs.YtiggjbclbdikmaaDoor.Ud
namespace Go.Proofs.YtiggjbclbdikmaaDoor.X
open Go.RowKit Go.Proofs.YtiggjbclbdikmaaDoorW.PrintWords Go.Proofs.YtiggjbclbdikmaaDoorW.PrintLast Go.Proofs.YtiggjbclbdikmaaDoorW.PrintMore
attribute [local go_sem] max2_int min2_int max_two min_two max_three min_three max_four min_four   
set_option linter.unusedVariables false
set_option linter.unusedSimpArgs false
def tremaref01_Runes.l0 : Nat → List Int → List (S75) → Int → Option (List Int)
 | 0, _, _, _ => none
 | k + 1, x3, x4, x5 => if x5 < (x4.length : Int) then (if 0 ≤ x5 then (if x3.length < 35184372088832 then (tremaref01_Runes.l0 k (x3 ++ [(rd_T75 x4 x5).f0]) x4 (wrap64 (x5 + 1))) else (none)) else (none)) else (some x3)
def tremaref01_Runes.f (k : Nat) (l0 : List Int) : Option (List Int) := (tremaref01_Decode.f k l0 false).bind fun t276 => (tremaref01_Runes.l0 k ([] : List Int) t276 0)
theorem tremaref01_Runes.mono_l : ∀ k, (∀ y0 y1 y2, LeO (tremaref01_Runes.l0 k y0 y1 y2) (tremaref01_Runes.l0 (k + 1) y0 y1 y2))
 | 0 => fun _ _ _ r h => by simp [tremaref01_Runes.l0] at h
 | k + 1 => by
  have ih0 := tremaref01_Runes.mono_l k
  ·intro y0 y1 y2
   unfold tremaref01_Runes.l0
   repeat' first
   | (with_reducible exact ih0 _ _ _)
   | (with_reducible exact tremaref01_Decode.mono _ _ _)
   | (with_reducible exact LeO.refl _)
   | (with_reducible exact LeO.none _)
   | (with_reducible refine LeO.ite ?_ ?_)
   | (with_reducible refine LeO.bind ?_ (fun _ => ?_))
   | exact ih0 _ _ _
   | exact tremaref01_Decode.mono _ _ _
   | exact LeO.none _
   | refine LeO.ite ?_ ?_
   | refine LeO.bind ?_ (fun _ => ?_)
theorem tremaref01_Runes.mono : ∀ a0 k, LeO (tremaref01_Runes.f k a0) (tremaref01_Runes.f (k + 1) a0) := by
 intro a0 k
 have ih0 := tremaref01_Runes.mono_l k
 unfold tremaref01_Runes.f
 repeat' first
   | (with_reducible exact ih0 _ _ _)
   | (with_reducible exact tremaref01_Decode.mono _ _ _)
   | (with_reducible exact LeO.refl _)
   | (with_reducible exact LeO.none _)
   | (with_reducible refine LeO.ite ?_ ?_)
   | (with_reducible refine LeO.bind ?_ (fun _ => ?_))
   | exact ih0 _ _ _
   | exact tremaref01_Decode.mono _ _ _
   | exact LeO.none _
   | refine LeO.ite ?_ ?_
   | refine LeO.bind ?_ (fun _ => ?_)
set_option maxHeartbeats 8000000 in
set_option maxRecDepth 100000 in
theorem tremaref01_Runes.calls (k : Nat) (A0 : Option Addr) (c0 : Nat) (l0 : List Int) (r : List Int) (w : World) (hr0 : Kd.C (Kd.int .u8) w A0 l0.length l0) (hc0 : l0.length ≤ c0) (h : tremaref01_Runes.f k l0 = some r) :
  Calls Tryd.prog 28 #[.slice A0 l0.length c0] w fun e w' => ∃ v0_ : Value, e = .returned (v0_) ∧ Kd.R (Kd.int .i32) 21 w' w.heap.size (fun _ => True) v0_ r ∧ Below w.heap.size w w' := by
 have HR0 := Aside0.mk hr0
 have HC0 := Aside0.mk hc0
 clear hr0 hc0
 have HB := Aside0.mk (Below.refl w.heap.size w)
 have H : ((tremaref01_Decode.f k l0 false).bind fun t276 => (tremaref01_Runes.l0 k ([] : List Int) t276 0)) = some r := h
 clear h
 replace H := Option.bind_eq_some_iff.mp H
 obtain ⟨t276, A20, H⟩ := H
 replace H : (tremaref01_Runes.l0 k ([] : List Int) t276 0) = some r := H
 have A2 := Aside0.mk A20
 clear A20
 have H' := Aside0.mk H
 clear H
 go_enter Tryd.func28, Tryd.ntmps28
 go_wp2_with (first | ((with_reducible refine gate_callee (f := 59) rfl ?_); refine goesL_ (some 7) rfl rfl Tryd.func59 (by kernel_rfl) rfl #[.slice A0 l0.length c0, .bool false] rfl (by (try simp only [List.map_toArray, List.map_cons, List.map_nil]); first | done | rfl | (simp only [List.length_drop, List.length_take]; rfl)) ?_; (with_reducible refine (tremaref01_Decode.calls k _ _ l0 false t276 _ ?side1 ?side2 A2.out).mono ?_); (case side1 => repeat (first | exact HR0.out | (with_reducible refine Kd.C_alloc ?_ _) | (with_reducible refine Kd.C_drewN ?_ _) | (with_reducible refine Kd.C_drew ?_))); (case side2 => exact HC0.out); rintro e w3 ⟨v277, rfl, ho0, hb⟩; refine ⟨_, rfl, ?_⟩; have n0_ := Aside0.mk (Kd.R_lower ho0 (below_size (by repeat (first | (with_reducible first | exact HB.out | apply below_alloc | apply pw_below_drewN | apply below_drew1) | exact HB.out)))); have n1_ := Aside0.mk (below_step (by repeat (first | (with_reducible first | exact HB.out | apply below_alloc | apply pw_below_drewN | apply below_drew1) | exact HB.out)) hb); clear HB; have HO278 := n0_; have HB := n1_; clear n0_ n1_; (try clear hb); (try clear hb2); (try clear hk); (try clear hi); (try clear ho0)))
 go_loopg [3, 5] k (fun kq v3 v5 w' => ∃ (x3_1 : List Int) (x5_1 : Int), v5 = .int .i64 x5_1 ∧ Aside0 (tremaref01_Runes.l0 kq x3_1 t276 x5_1 = some r) ∧ Aside0 (kq ≤ k) ∧ Aside0 (Kd.R (Kd.int .i32) 21 w' w.heap.size (fun _ => True) v3 x3_1) ∧ Aside0 (Kd.R k75 75 w' w.heap.size (fun _ => True) v277 t276) ∧ Aside0 (Below w.heap.size w w'))
 case atStart => exact ⟨(([] : List Int)), (0), (by first | rfl | (simp; done) | (simp [*]; done)), H', ⟨Nat.le_refl _⟩, ⟨by first | exact Kd.R_nil _ _ _ _ _ | exact Kd.N_nil _ _ _ _ _ | exact Kd.V_nil _ _ _ _ _ | exact Kd.Q_nil _ _ _ _ _ | exact Kd.S_nil _ _ _ _ _⟩, ⟨by (with_reducible repeat (first | apply Kd.R_alloc | apply Kd.R_drewN | apply Kd.R_drew)); exact HO278.out⟩, ⟨by repeat (first | (with_reducible first | exact HB.out | apply below_alloc | apply pw_below_drewN | apply below_drew1) | exact HB.out)⟩⟩
 case round =>
  clear H'
  try clear c2
  try clear p2
  obtain ⟨x3_1, x5_1, rfl, HA, HK1, HO_3, HO_4, HB⟩ := hrel
  cases gk with
  | zero => exact absurd HA.out (by simp [tremaref01_Runes.l0])
  | succ k1 =>
   have H := HA.out
   clear HA
   simp only [tremaref01_Runes.l0] at H
   by_cases c4 : x5_1 < (t276.length : Int)
   ·rw [if_pos c4] at H
    have c4b0 : decide (x5_1 < (t276.length : Int)) = true := decide_eq_true c4
    clear c4
    by_cases c5 : 0 ≤ x5_1
    ·rw [if_pos c5] at H
     have c5b0 : decide (0 ≤ x5_1) = true := decide_eq_true c5
     clear c5
     by_cases c6 : x3_1.length < 35184372088832
     ·rw [if_pos c6] at H
      have LMc6 := Aside0.mk c6
      clear c6
      obtain ⟨y280, hy280⟩ : ∃ y_ : List Int, y_ = (x3_1 ++ [(rd_T75 t276 x5_1).f0]) := ⟨_, rfl⟩
      replace H : (tremaref01_Runes.l0 k1 y280 t276 (wrap64 (x5_1 + 1))) = some r := by first | (rw [hy280]; with_reducible exact H) | (have H2_ := (Option.bind_some _ _).symm.trans H; rw [hy280]; with_reducible exact H2_) | (have H2_ := (Option.bind_some _ _).symm.trans H; with_reducible exact H2_) | with_reducible exact H | (rw [hy280]; exact H) | exact H
      have Ny280 := Aside0.mk hy280
      clear hy280
      have H' := Aside0.mk H
      clear H
      obtain ⟨Ao7, co7, eo7⟩ := Kd.R_slice HO_4.out
      subst eo7
      have p279 : 0 ≤ (x5_1 : Int) := of_decide_eq_true (by first | (with_reducible assumption) | assumption)
      have q279 : x5_1 < (t276.length : Int) := of_decide_eq_true (by first | (with_reducible assumption) | assumption)
      obtain ⟨ad279, e279, hx279_0, hx279_1, hx279_2⟩ := at_T75 (Kd.R_reads' HO_4.out).2.2 x5_1 p279 q279
      cases e279
      replace p279 := eq_true p279
      replace q279 := eq_true q279
      go_wp2_with (first | ((with_reducible refine gate_builtin (b := .append) (xs := #[.tmp 14, .tmp 20]) rfl ?_); at_builtin; refine Kd.R_append (Kd.int .i32) (w0 := w) w.heap.size rfl (.tmp 14) (.tmp 20) 22 21 (.int .i32 0) 4 rfl Tryd.underlying22 info21 rfl (by decide) (by omega) u3 x3_1 ((rd_T75 t276 x5_1).f0) [.int .i32 ((rd_T75 t276 x5_1).f0)] (fun _ => True) (fun _ => False) rfl rfl ?aP (fun _ hk => hk.elim) ?aF ?aO ?aB ?aS ?aL ?_; (case aP => exact rfl); (case aB => exact (by repeat (first | (with_reducible first | exact HB.out | apply below_alloc | apply pw_below_drewN | apply below_drew1) | exact HB.out))); (case aF => exact (fun _ _ => trivial)); (case aO => exact (by (with_reducible repeat (first | apply Kd.R_alloc | apply Kd.R_drewN | apply Kd.R_drew)); exact HO_3.out)); (case aS => exact (below_size (by repeat (first | (with_reducible first | exact HB.out | apply below_alloc | apply pw_below_drewN | apply below_drew1) | exact HB.out)))); (case aL => have := LMc6.out; omega); intro v281 w8 ho hb hg hat; rw [← Ny280.out] at ho; have n0_ := Aside0.mk (Kd.R_over' (by (with_reducible repeat (first | apply Kd.R_alloc | apply Kd.R_drewN | apply Kd.R_drew)); exact HO_4.out) (Kd.R_typed (by (with_reducible repeat (first | apply Kd.R_alloc | apply Kd.R_drewN | apply Kd.R_drew)); exact HO_3.out)) (by decide) hg); have n1_ := Aside0.mk (hb); have n2_ := Aside0.mk (ho); clear HO_4; clear HB; clear HO_3; have HO_4 := n0_; have HB := n1_; have HO282 := n2_; clear n0_ n1_ n2_; clear ho hb hg hat))
      go_roundg k1
      case measure => have := HK1.out; omega
      case rel => exact ⟨(y280), (wrap64 (x5_1 + 1)), (by first | rfl | (simp; done) | (simp [*]; done)), H', ⟨by have := HK1.out; omega⟩, ⟨by (with_reducible repeat (first | apply Kd.R_alloc | apply Kd.R_drewN | apply Kd.R_drew)); exact HO282.out⟩, ⟨by (with_reducible repeat (first | apply Kd.R_alloc | apply Kd.R_drewN | apply Kd.R_drew)); exact HO_4.out⟩, ⟨by repeat (first | (with_reducible first | exact HB.out | apply below_alloc | apply pw_below_drewN | apply below_drew1) | exact HB.out)⟩⟩
     ·rw [if_neg c6] at H
      exact absurd H (by simp)
    ·rw [if_neg c5] at H
     exact absurd H (by simp)
   ·rw [if_neg c4] at H
    have c4b0 : decide (x5_1 < (t276.length : Int)) = false := decide_eq_false c4
    clear c4
    obtain rfl := Option.some.inj H
    obtain ⟨Ao9, co9, eo9⟩ := Kd.R_slice HO_4.out
    subst eo9
    go_wp2
    go_ret
    exact ⟨_, by first | rfl | (simp [errW_none, errW_some] <;> rfl) | (simp [*, errW_none, errW_some] <;> rfl), by (with_reducible repeat (first | apply Kd.R_alloc | apply Kd.R_drewN | apply Kd.R_drew)); exact HO_3.out, by repeat (first | (with_reducible first | exact HB.out | apply below_alloc | apply pw_below_drewN | apply below_drew1) | exact HB.out)⟩
end Go.Proofs.YtiggjbclbdikmaaDoor.X
namespace Go.Proofs.YtiggjbclbdikmaaDoor.X
open Go.RowKit Go.Proofs.YtiggjbclbdikmaaDoorW.PrintWords Go.Proofs.YtiggjbclbdikmaaDoorW.PrintLast Go.Proofs.YtiggjbclbdikmaaDoorW.PrintMore
attribute [local go_sem] max2_int min2_int max_two min_two max_three min_three max_four min_four   
set_option linter.unusedVariables false
set_option linter.unusedSimpArgs false
def tremaref03_Text.f (k : Nat) (l0 : List Int) : Option (ByteArray) := (tremaref01_Runes.f k l0).bind fun t309 => ((tremaref03_Normal.f k t309).bind fun t312 => ((tremaref01_Encode.f k t312).bind fun t315 => (some (strOfNums t315))))
theorem tremaref03_Text.mono : ∀ a0 k, LeO (tremaref03_Text.f k a0) (tremaref03_Text.f (k + 1) a0) := by
 intro a0 k
 unfold tremaref03_Text.f
 repeat' first
   | (with_reducible exact tremaref01_Encode.mono _ _)
   | (with_reducible exact tremaref01_Runes.mono _ _)
   | (with_reducible exact tremaref03_Normal.mono _ _)
   | (with_reducible exact LeO.refl _)
   | (with_reducible exact LeO.none _)
   | (with_reducible refine LeO.ite ?_ ?_)
   | (with_reducible refine LeO.bind ?_ (fun _ => ?_))
   | exact tremaref01_Encode.mono _ _
   | exact tremaref01_Runes.mono _ _
   | exact tremaref03_Normal.mono _ _
   | exact LeO.none _
   | refine LeO.ite ?_ ?_
   | refine LeO.bind ?_ (fun _ => ?_)
set_option maxHeartbeats 8000000 in
set_option maxRecDepth 100000 in
theorem tremaref03_Text.calls (k : Nat) (A0 : Option Addr) (c0 : Nat) (l0 : List Int) (r : ByteArray) (w : World) (hr0 : Kd.C (Kd.int .u8) w A0 l0.length l0) (hc0 : l0.length ≤ c0) (h : tremaref03_Text.f k l0 = some r) :
  Calls Tryd.prog 26 #[.slice A0 l0.length c0] w fun e w' => e = .returned (.string r) ∧ Below w.heap.size w w' := by
 have HR0 := Aside0.mk hr0
 have HC0 := Aside0.mk hc0
 clear hr0 hc0
 have HB := Aside0.mk (Below.refl w.heap.size w)
 have H : ((tremaref01_Runes.f k l0).bind fun t309 => ((tremaref03_Normal.f k t309).bind fun t312 => ((tremaref01_Encode.f k t312).bind fun t315 => (some (strOfNums t315))))) = some r := h
 clear h
 replace H := Option.bind_eq_some_iff.mp H
 obtain ⟨t309, A20, H⟩ := H
 replace H : ((tremaref03_Normal.f k t309).bind fun t312 => ((tremaref01_Encode.f k t312).bind fun t315 => (some (strOfNums t315)))) = some r := H
 have A2 := Aside0.mk A20
 clear A20
 replace H := Option.bind_eq_some_iff.mp H
 obtain ⟨t312, A30, H⟩ := H
 replace H : ((tremaref01_Encode.f k t312).bind fun t315 => (some (strOfNums t315))) = some r := H
 have A3 := Aside0.mk A30
 clear A30
 replace H := Option.bind_eq_some_iff.mp H
 obtain ⟨t315, A40, H⟩ := H
 replace H : (some (strOfNums t315)) = some r := H
 have A4 := Aside0.mk A40
 clear A40
 obtain rfl := Option.some.inj H
 go_enter Tryd.func26, Tryd.ntmps26
 go_wp2_with (first | ((with_reducible refine gate_callee (f := 28) rfl ?_); refine goesL_ (some 4) rfl rfl Tryd.func28 (by kernel_rfl) rfl #[.slice A0 l0.length c0] rfl (by (try simp only [List.map_toArray, List.map_cons, List.map_nil]); first | done | rfl | (simp only [List.length_drop, List.length_take]; rfl)) ?_; (with_reducible refine (tremaref01_Runes.calls k _ _ l0 t309 _ ?side1 ?side2 A2.out).mono ?_); (case side1 => repeat (first | exact HR0.out | (with_reducible refine Kd.C_alloc ?_ _) | (with_reducible refine Kd.C_drewN ?_ _) | (with_reducible refine Kd.C_drew ?_))); (case side2 => exact HC0.out); rintro e w5 ⟨v310, rfl, ho0, hb⟩; refine ⟨_, rfl, ?_⟩; have n0_ := Aside0.mk (Kd.R_lower ho0 (below_size (by repeat (first | (with_reducible first | exact HB.out | apply below_alloc | apply pw_below_drewN | apply below_drew1) | exact HB.out)))); have n1_ := Aside0.mk (below_step (by repeat (first | (with_reducible first | exact HB.out | apply below_alloc | apply pw_below_drewN | apply below_drew1) | exact HB.out)) hb); clear HB; have HO311 := n0_; have HB := n1_; clear n0_ n1_; (try clear hb); (try clear hb2); (try clear hk); (try clear hi); (try clear ho0); obtain ⟨Ao6, co6, eo6⟩ := Kd.R_slice HO311.out; subst eo6) | ((with_reducible refine gate_callee (f := 20) rfl ?_); refine goesL_ (some 5) rfl rfl Tryd.func20 (by kernel_rfl) rfl #[.slice Ao6 t309.length co6] rfl (by (try simp only [List.map_toArray, List.map_cons, List.map_nil]); first | done | rfl | (simp only [List.length_drop, List.length_take]; rfl)) ?_; (with_reducible refine (tremaref03_Normal.calls k _ _ t309 t312 _ ?side1 ?side2 A3.out).mono ?_); (case side1 => repeat (first | exact (Kd.R_reads' HO311.out).2.2 | (with_reducible refine Kd.C_alloc ?_ _) | (with_reducible refine Kd.C_drewN ?_ _) | (with_reducible refine Kd.C_drew ?_))); (case side2 => exact (Kd.R_reads' HO311.out).2.1); rintro e w7 ⟨v313, rfl, ho0, hb⟩; refine ⟨_, rfl, ?_⟩; have n0_ := Aside0.mk (Kd.R_elder' (by (with_reducible repeat (first | apply Kd.R_alloc | apply Kd.R_drewN | apply Kd.R_drew)); exact HO311.out) (Kd.R_base ho0) hb); have n1_ := Aside0.mk (Kd.R_lower (Kd.R_new' ho0 (Kd.R_lt (by (with_reducible repeat (first | apply Kd.R_alloc | apply Kd.R_drewN | apply Kd.R_drew)); exact HO311.out))) (below_size (by repeat (first | (with_reducible first | exact HB.out | apply below_alloc | apply pw_below_drewN | apply below_drew1) | exact HB.out)))); have n2_ := Aside0.mk (below_step (by repeat (first | (with_reducible first | exact HB.out | apply below_alloc | apply pw_below_drewN | apply below_drew1) | exact HB.out)) hb); clear HO311; clear HB; have HO311 := n0_; have HO314 := n1_; have HB := n2_; clear n0_ n1_ n2_; (try clear hb); (try clear hb2); (try clear hk); (try clear hi); (try clear ho0); obtain ⟨Ao8, co8, eo8⟩ := Kd.R_slice HO314.out; subst eo8) | ((with_reducible refine gate_callee (f := 57) rfl ?_); refine goesL_ (some 6) rfl rfl Tryd.func57 (by kernel_rfl) rfl #[.slice Ao8 t312.length co8] rfl (by (try simp only [List.map_toArray, List.map_cons, List.map_nil]); first | done | rfl | (simp only [List.length_drop, List.length_take]; rfl)) ?_; (with_reducible refine (tremaref01_Encode.calls k _ _ t312 t315 _ ?side1 ?side2 A4.out).mono ?_); (case side1 => repeat (first | exact (Kd.R_reads' HO314.out).2.2 | (with_reducible refine Kd.C_alloc ?_ _) | (with_reducible refine Kd.C_drewN ?_ _) | (with_reducible refine Kd.C_drew ?_))); (case side2 => exact (Kd.R_reads' HO314.out).2.1); rintro e w9 ⟨v316, rfl, ho0, hb⟩; refine ⟨_, rfl, ?_⟩; have n0_ := Aside0.mk (Kd.R_below (by (with_reducible repeat (first | apply Kd.R_alloc | apply Kd.R_drewN | apply Kd.R_drew)); exact HO311.out) hb); have n1_ := Aside0.mk (Kd.R_below (by (with_reducible repeat (first | apply Kd.R_alloc | apply Kd.R_drewN | apply Kd.R_drew)); exact HO314.out) hb); have n2_ := Aside0.mk (Kd.R_lower ho0 (below_size (by repeat (first | (with_reducible first | exact HB.out | apply below_alloc | apply pw_below_drewN | apply below_drew1) | exact HB.out)))); have n3_ := Aside0.mk (below_step (by repeat (first | (with_reducible first | exact HB.out | apply below_alloc | apply pw_below_drewN | apply below_drew1) | exact HB.out)) hb); clear HO311; clear HO314; clear HB; have HO311 := n0_; have HO314 := n1_; have HO317 := n2_; have HB := n3_; clear n0_ n1_ n2_ n3_; (try clear hb); (try clear hb2); (try clear hk); (try clear hi); (try clear ho0); have hcv10 := own_string (P := Tryd.prog) Tryd.underlying27 Tryd.underlying5 Tryd.underlying9 (Kd.own_of_R HO317.out)))
 go_ret
 exact ⟨by first | rfl | (simp [errW_none, errW_some] <;> rfl) | (simp [*, errW_none, errW_some] <;> rfl), by repeat (first | (with_reducible first | exact HB.out | apply below_alloc | apply pw_below_drewN | apply below_drew1) | exact HB.out)⟩
end Go.Proofs.YtiggjbclbdikmaaDoor.X
namespace Go.Proofs.YtiggjbclbdikmaaDoor.Nf
set_option linter.unusedVariables false
set_option linter.unusedSimpArgs false
open Go.Proofs.YtiggjbclbdikmaaDoor.Vd (decU)
open Go.RowKit Go.Proofs.YtiggjbclbdikmaaDoorW.PrintWords Go.Proofs.YtiggjbclbdikmaaDoorW.PrintLast Go.Proofs.YtiggjbclbdikmaaDoorW.PrintMore Go.Proofs.YtiggjbclbdikmaaDoor.Hp Go.Proofs.YtiggjbclbdikmaaDoor.Va Go.Proofs.YtiggjbclbdikmaaDoor.Na Go.Proofs.YtiggjbclbdikmaaDoor.Nb Go.Proofs.YtiggjbclbdikmaaDoor.Ng Go.Proofs.YtiggjbclbdikmaaDoor.X Go.Proofs.YtiggjbclbdikmaaDoor.Fr
theorem up {W w' : World} {o : Obj} (h : Below (W.alloc o).heap.size (W.alloc o) w') : Below W.heap.size W w' := below_step (below_alloc (Below.refl _ _) o) h
theorem litC (W : World) (cs : Array Value) (xs : List Int) (hc : cs.toList = nums .i32 xs) (hm : xs.length ≤ 9223372036854775807) : K3.C (W.alloc (.cells cs T3)) (some ⟨W.heap.size, 0, none⟩) xs.length xs := rdC (lit_reads (k := .i32) (heap_alloc_new W _) hc hm)
theorem SameR (W : World) (A : Option Addr) (c : Nat) (xs : List Int) (cs : Array Value) (hc : xs.length ≤ c) (hC : K3.C W A xs.length xs) (hcs : cs.toList = nums .i32 xs) (hm : xs.length ≤ 9223372036854775807) (n : Nat) (hn : n = xs.length) (h : tremaref01_SameRunes.f 40 xs xs = some true) :
    Calls Tryd.prog 21 #[.slice A n c, .slice (some ⟨W.heap.size, 0, none⟩) n n] (W.alloc (.cells cs T3)) fun e w' => e = .returned (.bool true) ∧ Below W.heap.size W w' := by
  subst hn
  exact (tremaref01_SameRunes.calls 40 A c xs _ _ xs true _ (Kd.C_below hC (below_alloc (Below.refl _ _) _)) hc (litC W cs xs hcs hm) (Nat.le_refl _) h).mono fun e w' ⟨h1, h2⟩ => ⟨h1, up h2.below⟩
end Go.Proofs.YtiggjbclbdikmaaDoor.Nf
namespace Go.Proofs.YtiggjbclbdikmaaDoor.X
open Go.RowKit Go.Proofs.YtiggjbclbdikmaaDoorW.PrintWords
end Go.Proofs.YtiggjbclbdikmaaDoor.X
namespace Go.Proofs.YtiggjbclbdikmaaDoor.Ot
set_option linter.unusedVariables false
set_option linter.unusedSimpArgs false
open Go.RowKit Go.Proofs.YtiggjbclbdikmaaDoorW.PrintWords Go.Proofs.YtiggjbclbdikmaaDoor.Ev0 Go.Proofs.YtiggjbclbdikmaaDoor.X Go.Proofs.YtiggjbclbdikmaaDoor.Ux Go.Proofs.YtiggjbclbdikmaaDoor.Va Go.Proofs.YtiggjbclbdikmaaDoor.Ve Go.Proofs.YtiggjbclbdikmaaDoor.Vp0 Go.Proofs.YtiggjbclbdikmaaDoor.Vr Go.Proofs.YtiggjbclbdikmaaDoor.Vu Go.Proofs.YtiggjbclbdikmaaDoor.Na Go.Proofs.YtiggjbclbdikmaaDoor.Oa Go.Proofs.YtiggjbclbdikmaaDoor.Ob
theorem wf_bytes {xs : List Int} (h : ∀ x, x ∈ xs → (Lit.int .u8 x).wf = true) : Bytes xs := fun x hx => by
  have := h x hx
  simpa [Lit.wf, IntKind.min, IntKind.max, IntKind.signed, IntKind.bits] using this
theorem bytes_str (l : List Int) (hb : Bytes l) : bytesOf (strOfNums l) = l := by
  unfold bytesOf
  rw [strOfNums_data, List.map_map]
  conv => rhs; rw [← List.map_id l]
  refine List.map_congr_left fun x hx => ?_
  have := hb x hx
  show (((UInt8.ofNat x.toNat).toNat : Nat) : Int) = x
  rw [UInt8.toNat_ofNat']
  omega
theorem cont_range : ∀ (bs : List (Int × Int)) (t : List Int) (r i : Int), 0 ≤ r → 0 ≤ (cont bs t r i).1 ∧ ((cont bs t r i).1 = 65533 ∨ (cont bs t r i).1 < (r + 1) * 64 ^ bs.length)
  | [], t, r, i, h => by simp only [cont, List.length_nil, Int.pow_zero, Int.mul_one]; omega
  | b :: bs, [], r, i, h => ⟨show (0 : Int) ≤ 65533 by decide, .inl rfl⟩
  | (lo, hi) :: bs, x :: t, r, i, h => by
    simp only [cont]
    split
    · exact ⟨show (0 : Int) ≤ 65533 by decide, .inl rfl⟩
    · have hx : 0 ≤ x % 64 ∧ x % 64 < 64 := by omega
      have h1 := cont_range bs t (r * 64 + x % 64) (i + 1) (by omega)
      refine ⟨h1.1, h1.2.imp id fun h2 => Int.lt_of_lt_of_le h2 ?_⟩
      rw [List.length_cons, Int.pow_succ, Int.mul_comm (64 ^ bs.length) 64, ← Int.mul_assoc]
      exact Int.mul_le_mul_of_nonneg_right (by omega) (Int.le_of_lt (Int.pow_pos (by decide)))
theorem one1_32 (c : Int) (t : List Int) (hc : 0 ≤ c ∧ c ≤ 255) : I32 (one1 c t).1 := by
  unfold one1 I32
  cases h : bnd c with
  | none => simp
  | some bs =>
    have hl := bnd_len h
    have hs : 0 ≤ st c ∧ st c ≤ 127 := by unfold st; repeat' split <;> omega
    have h1 := cont_range bs t (st c) 1 hs.1
    have h2 : (st c + 1) * 64 ^ bs.length ≤ 128 * 64 ^ 3 := by
      refine Int.mul_le_mul (by omega) ?_ (Int.le_of_lt (Int.pow_pos (by decide))) (by decide)
      have : (64 : Int) ^ bs.length ≤ 64 ^ 3 := by
        rcases (show bs.length = 0 ∨ bs.length = 1 ∨ bs.length = 2 ∨ bs.length = 3 by omega) with e | e | e | e <;> rw [e] <;> decide
      exact this
    have h3 : (128 : Int) * 64 ^ 3 = 33554432 := by decide
    rw [h3] at h2
    show -2147483648 ≤ (cont bs t (st c) 1).1 ∧ (cont bs t (st c) 1).1 ≤ 2147483647
    omega
theorem dec_32 : ∀ (k : Nat) (b : List Int) (p : Int), Bytes b → ∀ y ∈ (dec k b p).1, I32 y.f0
  | 0, b, p, _, y, hy => by simp [dec] at hy
  | k + 1, [], p, _, y, hy => by simp [dec] at hy
  | k + 1, c :: t, p, hb, y, hy => by
    have hc := hb c (List.mem_cons_self ..)
    simp only [dec] at hy
    split at hy
    · simp at hy
    · rcases List.mem_cons.1 hy with rfl | hy
      · exact one1_32 c t hc
      · exact dec_32 k _ _ (fun x hx => hb x (List.mem_of_mem_drop hx)) y hy
theorem runes32 (l : List Int) (hb : Bytes l) : ∀ x ∈ (full l).map (·.f0), I32 x := by
  intro x hx
  obtain ⟨y, hy, rfl⟩ := List.mem_map.1 hx
  rcases List.mem_append.1 hy with hy | hy
  · exact dec_32 _ _ _ hb y hy
  · unfold rest1 at hy
    split at hy
    · simp at hy
    · rw [List.mem_singleton.1 hy]; show -2147483648 ≤ (65533 : Int) ∧ (65533 : Int) ≤ 2147483647; decide
def rns (l : List Int) : List Int := (full l).map (·.f0)
theorem runesEv (l : List Int) (hb : Bytes l) (hl : l.length ≤ 1000000000) : Ev (fun k => tremaref01_Runes.f k l) (rns l) := by
  have hfl := Ud.full_len l
  unfold tremaref01_Runes.f
  have hd := Ref_dec l hb (by omega) false
  refine Ev.bind (Ev.of (tremaref01_Decode.mono l false) hd) ?_
  obtain ⟨P, hP⟩ : ∃ P, P = full l := ⟨_, rfl⟩
  have e : (dc l 0).1 ++ (if false = true then [] else rest1 (dc l 0).2.1 (dc l 0).2.2) = P := by rw [hP]; rfl
  rw [e]
  unfold rns
  rw [← hP] at hfl ⊢
  have key : ∀ q i : Nat, i + q = P.length → Ev (fun k => tremaref01_Runes.l0 k ((P.take i).map (·.f0)) P (i : Int)) (P.map (·.f0)) := by
    intro q
    induction q with
    | zero =>
      intro i hi
      obtain rfl : i = P.length := hi
      refine Ev.step (fun k => tremaref01_Runes.l0.eq_2 ..) ?_
      simp only [if_neg (Int.lt_irrefl _), List.take_length]
      exact Ev.now _
    | succ q ih =>
      intro i hi
      have hil : i < P.length := by omega
      have ih := ih (i + 1) (by omega)
      rw [List.take_succ_eq_append_getElem hil, List.map_append] at ih
      have hr : rd_T75 P (i : Int) = P[i] := by unfold rd_T75; simp [List.getD_eq_getElem?_getD, List.getElem?_eq_getElem hil]
      refine Ev.step (fun k => tremaref01_Runes.l0.eq_2 ..) ?_
      simp only [if_pos (show (i : Int) < (P.length : Int) by omega), if_pos (show (0 : Int) ≤ (i : Int) by omega), hr, if_pos (show ((P.take i).map (·.f0)).length < 35184372088832 by rw [List.length_map, List.length_take]; omega), w64 (i := i) (by omega)]
      exact ih
  exact key P.length 0 (by omega)
end Go.Proofs.YtiggjbclbdikmaaDoor.Ot
namespace Go.Proofs.YtiggjbclbdikmaaDoor.Sga
set_option linter.unusedVariables false
set_option linter.unusedSimpArgs false
open Go.Proofs.YtiggjbclbdikmaaDoor.Vd (decU)
open Go.Proofs.YtiggjbclbdikmaaDoor.Fr (K3 T3)
open Go.Proofs.YtiggjbclbdikmaaDoor.En (enc enc_pure enc_len enc_byte)
open Go.RowKit Go.Proofs.YtiggjbclbdikmaaDoorW.PrintWords Go.Proofs.YtiggjbclbdikmaaDoor.Hp Go.Proofs.YtiggjbclbdikmaaDoor.Fm Go.Proofs.YtiggjbclbdikmaaDoor.X Go.Proofs.YtiggjbclbdikmaaDoor.Va Go.Proofs.YtiggjbclbdikmaaDoor.Oa Go.Proofs.YtiggjbclbdikmaaDoor.Vp0 Go.Proofs.YtiggjbclbdikmaaDoor.Cn
abbrev TS : Nat := 87
abbrev TG : Nat := 69
abbrev KB : Kd Int := Kd.int .u8
abbrev kG := k69
def txt (o : List Int) : ByteArray := strOfNums (enc (nrm o))
theorem EncR (w : World) (A : Option Addr) (n c : Nat) (l : List Int) (hC : K3.C w A n l) (hn : n = l.length) (hc : n ≤ c) (hl : n ≤ 1000000000) :
    Calls Tryd.prog 56 #[.slice A n c] w fun e w' => ∃ A' m c', e = .returned (.slice A' m c') ∧ m = (enc l).length ∧ m ≤ c' ∧ KB.C w' A' m (enc l) ∧ Below w.heap.size w w' := by
  subst hn
  refine (utf_Encode.calls (2 * l.length + 1) A c l (enc l) w hC hc (enc_pure l (by omega))).mono ?_
  rintro e w' ⟨v, rfl, p1, p2⟩
  obtain ⟨A', c', rfl, hc', hC'⟩ := Kd.R_reads p1
  exact ⟨A', _, c', rfl, rfl, hc', hC', p2⟩
def segCells (gd : Nat) (lim : Int) (ov : Value) (a e : Int) (cl : Bool) (er : Int) : Array Value := #[.pointer (some ⟨gd, 0, none⟩), .int .i64 lim, ov, .int .i64 a, .int .i64 e, .bool cl, .int .i64 er]
set_option maxRecDepth 100000 in
set_option maxHeartbeats 4000000 in
theorem WholeP (w : World) (hG : G w) (g gd : Nat) (lim a e er : Int) (cl : Bool) (A : Option Addr) (n c : Nat) (o : List Int) (hb : w.heap[g]? = some (.cells (segCells gd lim (.slice A n c) a e cl er) TS (0, 0))) (hC : K3.C w A n o) (hn : n = o.length) (hc : n ≤ c) (hwf : ∀ x ∈ o, I32 x) (hl : n ≤ 60000000) :
    Calls Tryd.prog 73 #[.pointer (some ⟨g, 0, none⟩)] w fun E w' => E = .returned (.agg #[.string (txt o), .int .i64 a, .int .i64 e]) ∧ Below w.heap.size w w' := by
  have hnl := nrm_len3 o hwf
  obtain ⟨q, hq⟩ : ∃ q, q = (nrm o).length := ⟨_, rfl⟩
  have hq5 : q ≤ 180000000 := by omega
  have HQ := Aside0.mk hq
  have HN := Aside0.mk hn
  have HG := Aside0.mk hG
  have HC := Aside0.mk hC
  have HWF := Aside0.mk hwf
  have HB := Aside0.mk hb
  clear hq hn hG hC hwf hb hnl
  go_enter Tryd.func73, Tryd.ntmps73
  go_upto_region 1 with (fail)
  obtain ⟨w1, hw1⟩ : ∃ w1, w1 = w.alloc (.cells #[.string ⟨#[]⟩, .int .i64 0, .int .i64 0] TG) := ⟨_, rfl⟩
  have HB1 := Aside0.mk (show Below w.heap.size w w1 by rw [hw1]; exact below_alloc (Below.refl _ _) _)
  have HN1 := Aside0.mk (show w1.heap[w.heap.size]? = some (.cells #[.string ⟨#[]⟩, .int .i64 0, .int .i64 0] TG (0, 0)) by rw [hw1]; exact heap_alloc_new w _)
  rw [← hw1]
  obtain ⟨r, hr⟩ : ∃ r, r = w.heap.size := ⟨_, rfl⟩
  rw [← hr] at HN1 ⊢
  have HR := Aside0.mk hr
  clear hw1 hr
  have HD := Aside0.mk (((Drawn0.refl w1).step 1).below)
  refine wp_region_held_drew (S := fun W => Below w.heap.size w W) (by kernel_rfl) (below_step HB1.out HD.out) (fun hS => ?_)
  have HL := Aside0.mk (show ∀ W, Below w.heap.size w W → W.heap[g]? = some (.cells (segCells gd lim (.slice A n c) a e cl er) TS (0, 0)) from fun W h => blk_below HB.out h)
  refine wpAnyH_take (i := 0) (oi := { dst := some 3, op := _, type := _, pos := _, after := _, guard := _ }) (v := .pointer (some ⟨g, 0, none⟩)) rfl (by kernel_rfl) (by kernel_rfl) (by kernel_rfl) (fun _ _ _ h => h) (Or.inl ⟨by rfl, fun W hW => ?_⟩) hS ?_
  · (go_simp)
  try simp only [Act.put, List.setIfInBounds_toArray, List.set_cons_zero, List.set_cons_succ]
  refine wpAnyH_take (i := 1) (oi := { dst := some 4, op := _, type := _, pos := _, after := _, guard := _ }) (v := .pointer (some ⟨g, 0, none⟩)) rfl (by kernel_rfl) (by kernel_rfl) (by kernel_rfl) (fun _ _ _ h => h) (Or.inl ⟨by rfl, fun W hW => ?_⟩) hS ?_
  · (go_simp)
  try simp only [Act.put, List.setIfInBounds_toArray, List.set_cons_zero, List.set_cons_succ]
  refine wpAnyH_take (i := 2) (oi := { dst := some 5, op := _, type := _, pos := _, after := _, guard := _ }) (v := .pointer (some ⟨g, 2, none⟩)) rfl (by kernel_rfl) (by kernel_rfl) (by kernel_rfl) (fun _ _ _ h => h) (Or.inl ⟨by rfl, fun W hW => ?_⟩) hS ?_
  · (go_simp)
  try simp only [Act.put, List.setIfInBounds_toArray, List.set_cons_zero, List.set_cons_succ]
  refine wpAnyH_take (i := 3) (oi := { dst := some 6, op := _, type := _, pos := _, after := _, guard := _ }) (v := .slice A n c) rfl (by kernel_rfl) (by kernel_rfl) (by kernel_rfl) (fun _ _ _ h => h) (Or.inl ⟨by rfl, fun W hW => ?_⟩) hS ?_
  · (have hcell := blk_cell (HL.out W hW) 2; simp only [segCells] at hcell; go_simp)
  try simp only [Act.put, List.setIfInBounds_toArray, List.set_cons_zero, List.set_cons_succ]
  refine wpAnyH_take (i := 7) (oi := { dst := some 10, op := _, type := _, pos := _, after := _, guard := _ }) (v := .pointer (some ⟨g, 0, none⟩)) rfl (by kernel_rfl) (by kernel_rfl) (by kernel_rfl) (fun _ _ _ h => h) (Or.inl ⟨by rfl, fun W hW => ?_⟩) hS ?_
  · (go_simp)
  try simp only [Act.put, List.setIfInBounds_toArray, List.set_cons_zero, List.set_cons_succ]
  refine wpAnyH_take (i := 8) (oi := { dst := some 11, op := _, type := _, pos := _, after := _, guard := _ }) (v := .pointer (some ⟨g, 0, none⟩)) rfl (by kernel_rfl) (by kernel_rfl) (by kernel_rfl) (fun _ _ _ h => h) (Or.inl ⟨by rfl, fun W hW => ?_⟩) hS ?_
  · (go_simp)
  try simp only [Act.put, List.setIfInBounds_toArray, List.set_cons_zero, List.set_cons_succ]
  refine wpAnyH_take (i := 9) (oi := { dst := some 12, op := _, type := _, pos := _, after := _, guard := _ }) (v := .pointer (some ⟨g, 3, none⟩)) rfl (by kernel_rfl) (by kernel_rfl) (by kernel_rfl) (fun _ _ _ h => h) (Or.inl ⟨by rfl, fun W hW => ?_⟩) hS ?_
  · (go_simp)
  try simp only [Act.put, List.setIfInBounds_toArray, List.set_cons_zero, List.set_cons_succ]
  refine wpAnyH_take (i := 10) (oi := { dst := some 13, op := _, type := _, pos := _, after := _, guard := _ }) (v := .int .i64 a) rfl (by kernel_rfl) (by kernel_rfl) (by kernel_rfl) (fun _ _ _ h => h) (Or.inl ⟨by rfl, fun W hW => ?_⟩) hS ?_
  · (have hcell := blk_cell (HL.out W hW) 3; simp only [segCells] at hcell; go_simp)
  try simp only [Act.put, List.setIfInBounds_toArray, List.set_cons_zero, List.set_cons_succ]
  refine wpAnyH_take (i := 11) (oi := { dst := some 14, op := _, type := _, pos := _, after := _, guard := _ }) (v := .pointer (some ⟨g, 0, none⟩)) rfl (by kernel_rfl) (by kernel_rfl) (by kernel_rfl) (fun _ _ _ h => h) (Or.inl ⟨by rfl, fun W hW => ?_⟩) hS ?_
  · (go_simp)
  try simp only [Act.put, List.setIfInBounds_toArray, List.set_cons_zero, List.set_cons_succ]
  refine wpAnyH_take (i := 12) (oi := { dst := some 15, op := _, type := _, pos := _, after := _, guard := _ }) (v := .pointer (some ⟨g, 0, none⟩)) rfl (by kernel_rfl) (by kernel_rfl) (by kernel_rfl) (fun _ _ _ h => h) (Or.inl ⟨by rfl, fun W hW => ?_⟩) hS ?_
  · (go_simp)
  try simp only [Act.put, List.setIfInBounds_toArray, List.set_cons_zero, List.set_cons_succ]
  refine wpAnyH_take (i := 13) (oi := { dst := some 16, op := _, type := _, pos := _, after := _, guard := _ }) (v := .pointer (some ⟨g, 4, none⟩)) rfl (by kernel_rfl) (by kernel_rfl) (by kernel_rfl) (fun _ _ _ h => h) (Or.inl ⟨by rfl, fun W hW => ?_⟩) hS ?_
  · (go_simp)
  try simp only [Act.put, List.setIfInBounds_toArray, List.set_cons_zero, List.set_cons_succ]
  refine wpAnyH_take (i := 14) (oi := { dst := some 17, op := _, type := _, pos := _, after := _, guard := _ }) (v := .int .i64 e) rfl (by kernel_rfl) (by kernel_rfl) (by kernel_rfl) (fun _ _ _ h => h) (Or.inl ⟨by rfl, fun W hW => ?_⟩) hS ?_
  · (have hcell := blk_cell (HL.out W hW) 4; simp only [segCells] at hcell; go_simp)
  try simp only [Act.put, List.setIfInBounds_toArray, List.set_cons_zero, List.set_cons_succ]
  refine wpAnyH_ready (rs := [4]) (by kernel_rfl) (by simp) ?_
  refine AllReadyH.cons (o := { dst := some 7, op := _, type := _, pos := _, after := _, guard := _ }) rfl (fun K hK => ?_) AllReadyH.nil
  go_simp
  (go_at_call 22)
  refine (NormR _ (HG.out.below hS) A n c o (Kd.C_below HC.out hS) HN.out hc HWF.out (by omega)).mono ?_
  rintro E w2 ⟨v2, rfl, p1, p2⟩
  obtain ⟨A2, c2, e2, hc2, hC2⟩ := Kd.R_reads p1
  rw [← HQ.out] at e2 hc2 hC2
  subst e2
  have B2 := Aside0.mk (below_then HD.out HD.out.size p2)
  clear p1 p2
  go_wp2_with fail
  refine hK.out _ _ (below_step HB1.out B2.out) (fun hS2 => ?_)
  clear hK K hS
  have hS := hS2
  clear hS2
  try simp only [Act.put, List.setIfInBounds_toArray, List.set_cons_zero, List.set_cons_succ]
  refine wpAnyH_ready (rs := [5]) (by kernel_rfl) (by simp) ?_
  refine AllReadyH.cons (o := { dst := some 8, op := _, type := _, pos := _, after := _, guard := _ }) rfl (fun K hK => ?_) AllReadyH.nil
  go_simp
  (go_at_call 56)
  refine (EncR _ A2 q c2 (nrm o) hC2 HQ.out hc2 (by omega)).mono ?_
  rintro E w3 ⟨A3, m3, c3, rfl, p0, p1, p2, p3⟩
  have B3 := Aside0.mk (below_then B2.out B2.out.size p3)
  have hcv := Sx.reads_string (P := Tryd.prog) (c := c3) Tryd.underlying27 Tryd.underlying5 Tryd.underlying9 (rdint p2)
  rw [show strOfNums (enc (nrm o)) = txt o from rfl] at hcv
  clear p0 p1 p2 p3 B2 hC2
  go_wp2_with fail
  refine hK.out _ _ (below_step HB1.out B3.out) (fun hS2 => ?_)
  clear hK K hS
  have hS := hS2
  clear hS2
  try simp only [Act.put, List.setIfInBounds_toArray, List.set_cons_zero, List.set_cons_succ]
  refine wpAnyH_ready (rs := [6]) (by kernel_rfl) (by simp) ?_
  refine AllReadyH.cons (o := { dst := some 9, op := _, type := _, pos := _, after := _, guard := _ }) rfl (fun K hK => ?_) AllReadyH.nil
  go_simp
  refine hK.out _ _ hS (fun hS2 => ?_)
  clear hK K hS2 hcv
  try simp only [Act.put, List.setIfInBounds_toArray, List.set_cons_zero, List.set_cons_succ]
  refine wpAnyH_take (i := 15) (oi := { dst := some 18, op := _, type := _, pos := _, after := _, guard := _ }) (v := .agg #[.string (txt o), .int .i64 a, .int .i64 e]) rfl (by kernel_rfl) (by kernel_rfl) (by kernel_rfl) (fun _ _ _ h => h) (Or.inl ⟨by rfl, fun W hW => ?_⟩) hS ?_
  · (go_simp)
  try simp only [Act.put, List.setIfInBounds_toArray, List.set_cons_zero, List.set_cons_succ]
  have hbk := blk_below HN1.out B3.out
  have c0 := blk_cell hbk 0
  have c1 := blk_cell hbk 1
  have c2 := blk_cell hbk 2
  have f0 := blk_frozen hbk 0
  have f1 := blk_frozen hbk 1
  have f2 := blk_frozen hbk 2
  have k3 := blk_set (blk_set (blk_set hbk 0 (.string (txt o))) 1 (.int .i64 a)) 2 (.int .i64 e)
  have H3 := Aside0.mk k3
  have HS3 := Aside0.mk (show Below w.heap.size w (((w3.setCell ⟨r, 0, none⟩ (.string (txt o))).setCell ⟨r, 1, none⟩ (.int .i64 a)).setCell ⟨r, 2, none⟩ (.int .i64 e)) by
    have h1 := (Chg.of_below (below_step HB1.out B3.out) (S := fun b => b = r) (fun k h1 h2 => absurd h1 (by omega)))
    have hp : ∀ j : Nat, (fun b => b = r) (⟨r, j, none⟩ : Addr).block ∨ w.heap.size ≤ (⟨r, j, none⟩ : Addr).block := fun _ => .inl rfl
    exact (((h1.setCell (hp 0) _).setCell (hp 1) _).setCell (hp 2) _).below (fun k hk => ⟨hk, fun h => by have := HR.out; omega⟩))
  clear hbk k3
  refine wpAnyH_ready (rs := [16]) (by kernel_rfl) (by simp) ?_
  refine AllReadyH.cons (o := { dst := none, op := _, type := _, pos := _, after := _, guard := _ }) rfl (fun K hK => ?_) AllReadyH.nil
  go_simp
  refine hK.out _ _ HS3.out (fun hS2 => ?_)
  clear hK K hS hS2
  refine wpAnyH_done (by kernel_rfl) ?_ _
  have q0 := (blk_cell H3.out 0).trans (show _ = some (Value.string (txt o)) from rfl)
  have q1 := (blk_cell H3.out 1).trans (show _ = some (Value.int .i64 a) from rfl)
  have q2 := (blk_cell H3.out 2).trans (show _ = some (Value.int .i64 e) from rfl)
  clear c0 c1 c2 f0 f1 f2 H3 HL
  generalize (((w3.setCell ⟨r, 0, none⟩ (.string (txt o))).setCell ⟨r, 1, none⟩ (.int .i64 a)).setCell ⟨r, 2, none⟩ (.int .i64 e)) = w4 at q0 q1 q2 HS3 ⊢
  go_wp2
  exact bodyPost_ret (v := .agg #[.string (txt o), .int .i64 a, .int .i64 e]) (by simp [results, Tryd.results73, go_sem, q0, q1, q2]) rfl ⟨rfl, HS3.out⟩
end Go.Proofs.YtiggjbclbdikmaaDoor.Sga
