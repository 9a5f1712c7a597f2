/-
  Several texts of this claim in one: what its law's proof uses.
-/
import Derived.Test.YtiggjbclbdikmaaDoorMSS2
import Derived.Test.YtiggjbclbdikmaaDoorMSS11
namespace Go.Proofs.YtiggjbclbdikmaaDoor.X
open Go.RowKit Go.Proofs.YtiggjbclbdikmaaDoorW.PrintWords Go.Proofs.YtiggjbclbdikmaaDoorW.PrintLast Go.Proofs.YtiggjbclbdikmaaDoorW.PrintMore
attribute [local go_sem] max2_int min2_int max_two min_two max_three min_three max_four min_four   
set_option linter.unusedVariables false
set_option linter.unusedSimpArgs false
def tremaref01_Put.j0 : Nat → List Int → Int → Option (List Int)
 | 0, _, _ => none
 | k + 1, x0, x1 => if x1 < 128 then (if x0.length < 140737488355328 then (some (x0 ++ [(x1) % 256])) else (none)) else (if x1 < 2048 then ((some (([(wrap32 (192 + (wrap32 (Int.tdiv x1 64)))) % 256, (wrap32 (128 + (Int.tmod x1 64))) % 256] : List Int) : List Int)).bind fun y287 => (if x0.length + y287.length < 140737488355328 then (some (x0 ++ y287)) else (none))) else (if x1 < 65536 then ((some (([(wrap32 (224 + (wrap32 (Int.tdiv x1 4096)))) % 256, (wrap32 (128 + (Int.tmod (wrap32 (Int.tdiv x1 64)) 64))) % 256, (wrap32 (128 + (Int.tmod x1 64))) % 256] : List Int) : List Int)).bind fun y293 => (if x0.length + y293.length < 140737488355328 then (some (x0 ++ y293)) else (none))) else ((some (([(wrap32 (240 + (wrap32 (Int.tdiv x1 262144)))) % 256, (wrap32 (128 + (Int.tmod (wrap32 (Int.tdiv x1 4096)) 64))) % 256, (wrap32 (128 + (Int.tmod (wrap32 (Int.tdiv x1 64)) 64))) % 256, (wrap32 (128 + (Int.tmod x1 64))) % 256] : List Int) : List Int)).bind fun y299 => (if x0.length + y299.length < 140737488355328 then (some (x0 ++ y299)) else (none)))))
def tremaref01_Put.f (k : Nat) (l0 : List Int) (a1 : Int) : Option (List Int) := (tremaref01_Valid.f a1).bind fun t283 => (if t283 = true then (tremaref01_Put.j0 k l0 a1) else (tremaref01_Put.j0 k l0 65533))
theorem tremaref01_Put.mono_l : ∀ k, (∀ y0 y1, LeO (tremaref01_Put.j0 k y0 y1) (tremaref01_Put.j0 (k + 1) y0 y1))
 | 0 => fun _ _ r h => by simp [tremaref01_Put.j0] at h
 | k + 1 => by
  have ih0 := tremaref01_Put.mono_l k
  ·intro y0 y1
   unfold tremaref01_Put.j0
   repeat' first
   | (with_reducible exact ih0 _ _)
   | (with_reducible exact LeO.refl _)
   | (with_reducible exact LeO.none _)
   | (with_reducible refine LeO.ite ?_ ?_)
   | (with_reducible refine LeO.bind ?_ (fun _ => ?_))
   | exact ih0 _ _
   | exact LeO.none _
   | refine LeO.ite ?_ ?_
   | refine LeO.bind ?_ (fun _ => ?_)
theorem tremaref01_Put.mono : ∀ a0 a1 k, LeO (tremaref01_Put.f k a0 a1) (tremaref01_Put.f (k + 1) a0 a1) := by
 intro a0 a1 k
 have ih0 := tremaref01_Put.mono_l k
 unfold tremaref01_Put.f
 repeat' first
   | (with_reducible exact ih0 _ _)
   | (with_reducible exact LeO.refl _)
   | (with_reducible exact LeO.none _)
   | (with_reducible refine LeO.ite ?_ ?_)
   | (with_reducible refine LeO.bind ?_ (fun _ => ?_))
   | exact ih0 _ _
   | exact LeO.none _
   | refine LeO.ite ?_ ?_
   | refine LeO.bind ?_ (fun _ => ?_)
set_option maxHeartbeats 8000000 in
set_option maxRecDepth 100000 in
theorem tremaref01_Put.calls (k : Nat) (P0_ : Nat → Prop) (u9000_ : Value) (l0 : List Int) (a1 : Int) (r : List Int) (w0 w : World) (hB : Below w0.heap.size w0 w) (ho0 : Kd.R (Kd.int .u8) 5 w w0.heap.size P0_ u9000_ l0) (h : tremaref01_Put.f k l0 a1 = some r) :
  Calls Tryd.prog 80 #[u9000_, .int .i32 a1] w fun e w' => ∃ v0_ : Value, e = .returned (v0_) ∧ Kd.R (Kd.int .u8) 5 w' w0.heap.size (fun k_ => (P0_ k_ ∨ w.heap.size ≤ k_)) v0_ r ∧ Below w0.heap.size w0 w' ∧ Kept w w' (fun k_ => P0_ k_) := by
 have HO0 := Aside0.mk (show Kd.R (Kd.int .u8) 5 w w0.heap.size (fun k_ => (P0_ k_ ∨ w.heap.size ≤ k_)) u9000_ l0 from Kd.R_mono ho0 (fun k_ hk => (.inl hk)))
 have HK := Aside0.mk (Kept.refl w (fun k_ => P0_ k_))
 have HW0 := Aside0.mk hB.size
 have HB := Aside0.mk hB
 clear hB
 have H : ((tremaref01_Valid.f a1).bind fun t283 => (if t283 = true then (tremaref01_Put.j0 k l0 a1) else (tremaref01_Put.j0 k l0 65533))) = some r := h
 clear h
 replace H := Option.bind_eq_some_iff.mp H
 obtain ⟨t283, A30, H⟩ := H
 replace H : (if t283 = true then (tremaref01_Put.j0 k l0 a1) else (tremaref01_Put.j0 k l0 65533)) = some r := H
 have A3 := Aside0.mk A30
 clear A30
 have HC4 := Aside0.mk H
 clear H
 go_enter Tryd.func80, Tryd.ntmps80
 go_upto_if 7 with (first | ((with_reducible refine gate_callee (f := 92) rfl ?_); refine goesL_ (some 6) rfl rfl Tryd.func92 (by kernel_rfl) rfl #[.int .i32 a1] rfl (by (try simp only [List.map_toArray, List.map_cons, List.map_nil]); first | done | rfl | (simp only [List.length_drop, List.length_take]; rfl)) ?_; (with_reducible refine (tremaref01_Valid.calls a1 t283 _ A3.out).mono ?_); rintro e w' ⟨rfl, ⟨nd, rfl⟩⟩; refine ⟨_, rfl, ?_⟩))
 (try simp only [Act.put, List.setIfInBounds_toArray, List.set_cons_zero, List.set_cons_succ])
 go_cut [1] (fun v1 wc => ∃ (kq : Nat) (x1_3 : Int), v1 = .int .i32 x1_3 ∧ Aside0 (tremaref01_Put.j0 kq l0 x1_3 = some r) ∧ Aside0 (kq ≤ k) ∧ Aside0 (Kd.R (Kd.int .u8) 5 wc w0.heap.size (fun k_ => (P0_ k_ ∨ w.heap.size ≤ k_)) u9000_ l0) ∧ Aside0 (Kept w wc (fun k_ => P0_ k_)) ∧ Aside0 (Below w0.heap.size w0 wc))
 case first =>
  have H := HC4.out
  clear HC4
  by_cases c5 : t283 = true
  ·subst c5
   have H1 : (tremaref01_Put.j0 k l0 a1) = some r := by rw [if_pos rfl] at H; exact H
   clear H
   have H := H1
   clear H1
   have H' := Aside0.mk H
   clear H
   go_wp2
   go_meet
   case rel => exact ⟨_, (a1), (by first | rfl | (simp; done) | (simp [*]; done)), H', ⟨by first | omega | exact Nat.le_refl _⟩, ⟨by (with_reducible repeat (first | apply Kd.R_alloc | apply Kd.R_drewN | apply Kd.R_drew)); exact HO0.out⟩, ⟨by repeat (first | (with_reducible first | exact HK.out | apply Kept.alloc | apply Kept.drewN | apply Kept.drew) | exact HK.out)⟩, ⟨by repeat (first | (with_reducible first | exact HB.out | apply below_alloc | apply pw_below_drewN | apply below_drew1) | exact HB.out)⟩⟩
  ·replace c5 := Bool.eq_false_iff.mpr c5
   subst c5
   have H1 : (tremaref01_Put.j0 k l0 65533) = some r := by rw [if_neg (show ¬ (false = true) by decide)] at H; exact H
   clear H
   have H := H1
   clear H1
   have H' := Aside0.mk H
   clear H
   go_wp2
   go_meet
   case rel => exact ⟨_, (65533), (by first | rfl | (simp; done) | (simp [*]; done)), H', ⟨by first | omega | exact Nat.le_refl _⟩, ⟨by (with_reducible repeat (first | apply Kd.R_alloc | apply Kd.R_drewN | apply Kd.R_drew)); exact HO0.out⟩, ⟨by repeat (first | (with_reducible first | exact HK.out | apply Kept.alloc | apply Kept.drewN | apply Kept.drew) | exact HK.out)⟩, ⟨by repeat (first | (with_reducible first | exact HB.out | apply below_alloc | apply pw_below_drewN | apply below_drew1) | exact HB.out)⟩⟩
 case rest =>
  clear HC4
  try clear p2
  try clear c5
  obtain ⟨kq, x1_3, rfl, HA, HJ3, HO_0, HK, HB⟩ := hcut
  cases kq with
  | zero => exact absurd HA.out (by simp [tremaref01_Put.j0])
  | succ kj3 =>
   have H := HA.out
   clear HA
   simp only [tremaref01_Put.j0] at H
   by_cases c6 : x1_3 < 128
   ·rw [if_pos c6] at H
    have c6b0 : decide (x1_3 < 128) = true := decide_eq_true c6
    clear c6
    by_cases c7 : l0.length < 140737488355328
    ·rw [if_pos c7] at H
     have LMc7 := Aside0.mk c7
     clear c7
     obtain ⟨y284, hy284⟩ : ∃ y_ : List Int, y_ = (l0 ++ [(x1_3) % 256]) := ⟨_, rfl⟩
     replace H : (some y284) = some r := by first | (rw [hy284]; with_reducible exact H) | (have H2_ := (Option.bind_some _ _).symm.trans H; rw [hy284]; with_reducible exact H2_) | (have H2_ := (Option.bind_some _ _).symm.trans H; with_reducible exact H2_) | with_reducible exact H | (rw [hy284]; exact H) | exact H
     have Ny284 := Aside0.mk hy284
     clear hy284
     obtain rfl := Option.some.inj H
     go_wp2_with (first | ((with_reducible refine gate_builtin (b := .append) (xs := #[.tmp 10, .tmp 13]) rfl ?_); at_builtin; refine Kd.R_append (Kd.int .u8) (w0 := w0) w0.heap.size rfl (.tmp 10) (.tmp 13) 27 5 (.int .u8 0) 1 rfl Tryd.underlying27 info5 rfl (by decide) (by omega) u9000_ l0 ((x1_3) % 256) [.int .u8 ((x1_3) % 256)] (fun k_ => (P0_ k_ ∨ w.heap.size ≤ k_)) (fun _ => False) rfl rfl ?aP (fun _ hk => hk.elim) ?aF ?aO ?aB ?aS ?aL ?_; (case aP => exact rfl); (case aB => exact (by repeat (first | (with_reducible first | exact HB.out | apply below_alloc | apply pw_below_drewN | apply below_drew1) | exact HB.out))); (case aF => exact (fun k_ hk => (.inr (Nat.le_trans (by first | exact HK.out.1 | exact (show Kept w _ (fun k_ => P0_ k_) from by repeat (first | (with_reducible first | exact HK.out | apply Kept.alloc | apply Kept.drewN | apply Kept.drew) | exact HK.out)).1) hk)))); (case aO => exact (by (with_reducible repeat (first | apply Kd.R_alloc | apply Kd.R_drewN | apply Kd.R_drew)); exact HO_0.out)); (case aS => exact (below_size (by repeat (first | (with_reducible first | exact HB.out | apply below_alloc | apply pw_below_drewN | apply below_drew1) | exact HB.out)))); (case aL => have := LMc7.out; omega); intro v285 w8 ho hb hg hat; rw [← Ny284.out] at ho; have n0_ := Aside0.mk (hb); have n1_ := Aside0.mk (Kept.of_grown (S := (fun k_ => P0_ k_)) hg (by repeat (first | (with_reducible first | exact HK.out | apply Kept.alloc | apply Kept.drewN | apply Kept.drew) | exact HK.out)) (fun k_ e_ => (HO_0.out.1 k_ e_))); have n2_ := Aside0.mk (ho); clear HB; clear HK; clear HO_0; have HB := n0_; have HK := n1_; have HO286 := n2_; clear n0_ n1_ n2_; clear ho hb hg hat))
     go_ret
     exact ⟨_, by first | rfl | (simp [errW_none, errW_some] <;> rfl) | (simp [*, errW_none, errW_some] <;> rfl), by (with_reducible repeat (first | apply Kd.R_alloc | apply Kd.R_drewN | apply Kd.R_drew)); exact HO286.out, by repeat (first | (with_reducible first | exact HB.out | apply below_alloc | apply pw_below_drewN | apply below_drew1) | exact HB.out), by repeat (first | (with_reducible first | exact HK.out | apply Kept.alloc | apply Kept.drewN | apply Kept.drew) | exact HK.out)⟩
    ·rw [if_neg c7] at H
     exact absurd H (by simp)
   ·rw [if_neg c6] at H
    have c6b0 : decide (x1_3 < 128) = false := decide_eq_false c6
    clear c6
    by_cases c9 : x1_3 < 2048
    ·rw [if_pos c9] at H
     have c9b0 : decide (x1_3 < 2048) = true := decide_eq_true c9
     clear c9
     obtain ⟨y287, hy287⟩ : ∃ y_ : List Int, y_ = (([(wrap32 (192 + (wrap32 (Int.tdiv x1_3 64)))) % 256, (wrap32 (128 + (Int.tmod x1_3 64))) % 256] : List Int)) := ⟨_, rfl⟩
     replace H : (if l0.length + y287.length < 140737488355328 then (some (l0 ++ y287)) else (none)) = some r := by first | (rw [hy287]; with_reducible exact H) | (have H2_ := (Option.bind_some _ _).symm.trans H; rw [hy287]; with_reducible exact H2_) | (have H2_ := (Option.bind_some _ _).symm.trans H; with_reducible exact H2_) | with_reducible exact H | (rw [hy287]; exact H) | exact H
     have Ny287 := Aside0.mk hy287
     clear hy287
     by_cases c10 : l0.length + y287.length < 140737488355328
     ·rw [if_pos c10] at H
      have LMc10 := Aside0.mk c10
      clear c10
      obtain ⟨y290, hy290⟩ : ∃ y_ : List Int, y_ = (l0 ++ y287) := ⟨_, rfl⟩
      replace H : (some y290) = some r := by first | (rw [hy290]; with_reducible exact H) | (have H2_ := (Option.bind_some _ _).symm.trans H; rw [hy290]; with_reducible exact H2_) | (have H2_ := (Option.bind_some _ _).symm.trans H; with_reducible exact H2_) | with_reducible exact H | (rw [hy290]; exact H) | exact H
      have Ny290 := Aside0.mk hy290
      clear hy290
      obtain rfl := Option.some.inj H
      go_wp2_with (first | ((with_reducible refine gate_dst (N := 26) rfl ?_); refine Kd.R_lit (Kd.int .u8) _ 5 ?hg (N := 26) ?hd (xs := ([(wrap32 (192 + (wrap32 (Int.tdiv x1_3 64)))) % 256, (wrap32 (128 + (Int.tmod x1_3 64))) % 256] : List Int)) (inner := [.int .u8 ((wrap32 (192 + (wrap32 (Int.tdiv x1_3 64)))) % 256), .int .u8 ((wrap32 (128 + (Int.tmod x1_3 64))) % 256)]) (ok := fun _ => True) (okp := fun _ => True) ?hr ?hp (fun _ hk => hk) trivial (Below.refl _ _) (Nat.le_refl _) (by simp) ?_; (case hd => rfl); (case hg => rfl); (case hr => first | (go_simp; done) | (go_simp; rfl)); (case hp => exact (Reps.one (show Kd.M (Kd.int .u8) _ _ _ ((wrap32 (192 + (wrap32 (Int.tdiv x1_3 64)))) % 256) [.int .u8 ((wrap32 (192 + (wrap32 (Int.tdiv x1_3 64)))) % 256)] from rfl) (Reps.one (show Kd.M (Kd.int .u8) _ _ _ ((wrap32 (128 + (Int.tmod x1_3 64))) % 256) [.int .u8 ((wrap32 (128 + (Int.tmod x1_3 64))) % 256)] from rfl) (Reps.none _ _)))); intro v288 w11 ho12 hb hg_ hnew_; clear hg_ hnew_; (first | rw [← Ny287.out] at ho12 | (simp only [Int.reduceToNat] at ho12; rw [← Ny287.out] at ho12)); have n0_ := Aside0.mk (Kd.R_elder' (by (with_reducible repeat (first | apply Kd.R_alloc | apply Kd.R_drewN | apply Kd.R_drew)); exact HO_0.out) (Kd.R_base ho12) hb); have n1_ := Aside0.mk (Kd.R_lower (Kd.R_new' (Kd.R_newM (M := fun k_ => (P0_ k_ ∨ w.heap.size ≤ k_)) ho12 (by first | exact HK.out.1 | exact (show Kept w _ (fun k_ => P0_ k_) from by repeat (first | (with_reducible first | exact HK.out | apply Kept.alloc | apply Kept.drewN | apply Kept.drew) | exact HK.out)).1) (fun k_ h_ => .inr h_)) (Kd.R_lt (by (with_reducible repeat (first | apply Kd.R_alloc | apply Kd.R_drewN | apply Kd.R_drew)); exact HO_0.out))) (below_size (by repeat (first | (with_reducible first | exact HB.out | apply below_alloc | apply pw_below_drewN | apply below_drew1) | exact HB.out)))); have n2_ := Aside0.mk (Kept.below (S := (fun k_ => P0_ k_)) (by repeat (first | (with_reducible first | exact HK.out | apply Kept.alloc | apply Kept.drewN | apply Kept.drew) | exact HK.out)) hb); have n3_ := Aside0.mk (below_step (by repeat (first | (with_reducible first | exact HB.out | apply below_alloc | apply pw_below_drewN | apply below_drew1) | exact HB.out)) hb); clear HO_0; clear HK; clear HB; have HO_0 := n0_; have HO289 := n1_; have HK := n2_; have HB := n3_; clear n0_ n1_ n2_ n3_; clear hb ho12; obtain ⟨Ao14, co14, eo14⟩ := Kd.R_slice HO289.out; subst eo14) | ((with_reducible refine gate_builtin (b := .append) (xs := #[.tmp 17, .tmp 26]) rfl ?_); at_builtin; refine Kd.R_append_rows (Kd.int .u8) (w0 := w0) w0.heap.size rfl (.tmp 17) (.tmp 26) 27 5 (.int .u8 0) 1 rfl Tryd.underlying27 info5 rfl (by decide) (by omega) u9000_ l0 y287 _ _ _ (fun k_ => (P0_ k_ ∨ w.heap.size ≤ k_) ∧ some k_ ≠ (.slice Ao14 y287.length co14 : Value).ownBlock) (fun _ => False) rfl rfl ?aO ?aR (fun _ _ h => h) (fun _ h => h.elim) ?aF ?aB ?aS ?aL ?_; (case aR => repeat (first | exact (Kd.R_reads' HO289.out).2.2 | (with_reducible refine Kd.C_alloc ?_ _) | (with_reducible refine Kd.C_drewN ?_ _) | (with_reducible refine Kd.C_drew ?_))); (case aB => exact (by repeat (first | (with_reducible first | exact HB.out | apply below_alloc | apply pw_below_drewN | apply below_drew1) | exact HB.out))); (case aF => exact (fun k_ hk => ⟨(.inr (Nat.le_trans (by first | exact HK.out.1 | exact (show Kept w _ (fun k_ => P0_ k_) from by repeat (first | (with_reducible first | exact HK.out | apply Kept.alloc | apply Kept.drewN | apply Kept.drew) | exact HK.out)).1) hk)), Kd.fresh' (Kd.R_lt (by (with_reducible repeat (first | apply Kd.R_alloc | apply Kd.R_drewN | apply Kd.R_drew)); exact HO289.out)) k_ hk⟩)); (case aO => exact (by (with_reducible repeat (first | apply Kd.R_alloc | apply Kd.R_drewN | apply Kd.R_drew)); exact HO_0.out)); (case aS => exact (below_size (by repeat (first | (with_reducible first | exact HB.out | apply below_alloc | apply pw_below_drewN | apply below_drew1) | exact HB.out)))); (case aL => have := LMc10.out; omega); intro v291 w13 ho hb hg hat; rw [← Ny290.out] at ho; have n0_ := Aside0.mk (Kd.R_after (ok := (fun k_ => (P0_ k_ ∨ w.heap.size ≤ k_))) (by (with_reducible repeat (first | apply Kd.R_alloc | apply Kd.R_drewN | apply Kd.R_drew)); exact Kd.R_mono HO289.out (fun _ hk => ⟨hk.1.1, hk.2⟩)) hg hat); have n1_ := Aside0.mk (hb); have n2_ := Aside0.mk (Kept.of_grown (S := (fun k_ => P0_ k_)) hg (by repeat (first | (with_reducible first | exact HK.out | apply Kept.alloc | apply Kept.drewN | apply Kept.drew) | exact HK.out)) (fun k_ e_ => (HO_0.out.1 k_ e_).1)); have n3_ := Aside0.mk (ho); clear HO289; clear HB; clear HK; clear HO_0; have HO289 := n0_; have HB := n1_; have HK := n2_; have HO292 := n3_; clear n0_ n1_ n2_ n3_; clear ho hb hg hat))
      go_ret
      exact ⟨_, by first | rfl | (simp [errW_none, errW_some] <;> rfl) | (simp [*, errW_none, errW_some] <;> rfl), by (with_reducible repeat (first | apply Kd.R_alloc | apply Kd.R_drewN | apply Kd.R_drew)); exact Kd.R_mono HO292.out (fun _ hk => hk.1), by repeat (first | (with_reducible first | exact HB.out | apply below_alloc | apply pw_below_drewN | apply below_drew1) | exact HB.out), by repeat (first | (with_reducible first | exact HK.out | apply Kept.alloc | apply Kept.drewN | apply Kept.drew) | exact HK.out)⟩
     ·rw [if_neg c10] at H
      exact absurd H (by simp)
    ·rw [if_neg c9] at H
     have c9b0 : decide (x1_3 < 2048) = false := decide_eq_false c9
     clear c9
     by_cases c15 : x1_3 < 65536
     ·rw [if_pos c15] at H
      have c15b0 : decide (x1_3 < 65536) = true := decide_eq_true c15
      clear c15
      obtain ⟨y293, hy293⟩ : ∃ y_ : List Int, y_ = (([(wrap32 (224 + (wrap32 (Int.tdiv x1_3 4096)))) % 256, (wrap32 (128 + (Int.tmod (wrap32 (Int.tdiv x1_3 64)) 64))) % 256, (wrap32 (128 + (Int.tmod x1_3 64))) % 256] : List Int)) := ⟨_, rfl⟩
      replace H : (if l0.length + y293.length < 140737488355328 then (some (l0 ++ y293)) else (none)) = some r := by first | (rw [hy293]; with_reducible exact H) | (have H2_ := (Option.bind_some _ _).symm.trans H; rw [hy293]; with_reducible exact H2_) | (have H2_ := (Option.bind_some _ _).symm.trans H; with_reducible exact H2_) | with_reducible exact H | (rw [hy293]; exact H) | exact H
      have Ny293 := Aside0.mk hy293
      clear hy293
      by_cases c16 : l0.length + y293.length < 140737488355328
      ·rw [if_pos c16] at H
       have LMc16 := Aside0.mk c16
       clear c16
       obtain ⟨y296, hy296⟩ : ∃ y_ : List Int, y_ = (l0 ++ y293) := ⟨_, rfl⟩
       replace H : (some y296) = some r := by first | (rw [hy296]; with_reducible exact H) | (have H2_ := (Option.bind_some _ _).symm.trans H; rw [hy296]; with_reducible exact H2_) | (have H2_ := (Option.bind_some _ _).symm.trans H; with_reducible exact H2_) | with_reducible exact H | (rw [hy296]; exact H) | exact H
       have Ny296 := Aside0.mk hy296
       clear hy296
       obtain rfl := Option.some.inj H
       go_wp2_with (first | ((with_reducible refine gate_dst (N := 44) rfl ?_); refine Kd.R_lit (Kd.int .u8) _ 5 ?hg (N := 44) ?hd (xs := ([(wrap32 (224 + (wrap32 (Int.tdiv x1_3 4096)))) % 256, (wrap32 (128 + (Int.tmod (wrap32 (Int.tdiv x1_3 64)) 64))) % 256, (wrap32 (128 + (Int.tmod x1_3 64))) % 256] : List Int)) (inner := [.int .u8 ((wrap32 (224 + (wrap32 (Int.tdiv x1_3 4096)))) % 256), .int .u8 ((wrap32 (128 + (Int.tmod (wrap32 (Int.tdiv x1_3 64)) 64))) % 256), .int .u8 ((wrap32 (128 + (Int.tmod x1_3 64))) % 256)]) (ok := fun _ => True) (okp := fun _ => True) ?hr ?hp (fun _ hk => hk) trivial (Below.refl _ _) (Nat.le_refl _) (by simp) ?_; (case hd => rfl); (case hg => rfl); (case hr => first | (go_simp; done) | (go_simp; rfl)); (case hp => exact (Reps.one (show Kd.M (Kd.int .u8) _ _ _ ((wrap32 (224 + (wrap32 (Int.tdiv x1_3 4096)))) % 256) [.int .u8 ((wrap32 (224 + (wrap32 (Int.tdiv x1_3 4096)))) % 256)] from rfl) (Reps.one (show Kd.M (Kd.int .u8) _ _ _ ((wrap32 (128 + (Int.tmod (wrap32 (Int.tdiv x1_3 64)) 64))) % 256) [.int .u8 ((wrap32 (128 + (Int.tmod (wrap32 (Int.tdiv x1_3 64)) 64))) % 256)] from rfl) (Reps.one (show Kd.M (Kd.int .u8) _ _ _ ((wrap32 (128 + (Int.tmod x1_3 64))) % 256) [.int .u8 ((wrap32 (128 + (Int.tmod x1_3 64))) % 256)] from rfl) (Reps.none _ _))))); intro v294 w17 ho18 hb hg_ hnew_; clear hg_ hnew_; (first | rw [← Ny293.out] at ho18 | (simp only [Int.reduceToNat] at ho18; rw [← Ny293.out] at ho18)); have n0_ := Aside0.mk (Kd.R_elder' (by (with_reducible repeat (first | apply Kd.R_alloc | apply Kd.R_drewN | apply Kd.R_drew)); exact HO_0.out) (Kd.R_base ho18) hb); have n1_ := Aside0.mk (Kd.R_lower (Kd.R_new' (Kd.R_newM (M := fun k_ => (P0_ k_ ∨ w.heap.size ≤ k_)) ho18 (by first | exact HK.out.1 | exact (show Kept w _ (fun k_ => P0_ k_) from by repeat (first | (with_reducible first | exact HK.out | apply Kept.alloc | apply Kept.drewN | apply Kept.drew) | exact HK.out)).1) (fun k_ h_ => .inr h_)) (Kd.R_lt (by (with_reducible repeat (first | apply Kd.R_alloc | apply Kd.R_drewN | apply Kd.R_drew)); exact HO_0.out))) (below_size (by repeat (first | (with_reducible first | exact HB.out | apply below_alloc | apply pw_below_drewN | apply below_drew1) | exact HB.out)))); have n2_ := Aside0.mk (Kept.below (S := (fun k_ => P0_ k_)) (by repeat (first | (with_reducible first | exact HK.out | apply Kept.alloc | apply Kept.drewN | apply Kept.drew) | exact HK.out)) hb); have n3_ := Aside0.mk (below_step (by repeat (first | (with_reducible first | exact HB.out | apply below_alloc | apply pw_below_drewN | apply below_drew1) | exact HB.out)) hb); clear HO_0; clear HK; clear HB; have HO_0 := n0_; have HO295 := n1_; have HK := n2_; have HB := n3_; clear n0_ n1_ n2_ n3_; clear hb ho18; obtain ⟨Ao20, co20, eo20⟩ := Kd.R_slice HO295.out; subst eo20) | ((with_reducible refine gate_builtin (b := .append) (xs := #[.tmp 30, .tmp 44]) rfl ?_); at_builtin; refine Kd.R_append_rows (Kd.int .u8) (w0 := w0) w0.heap.size rfl (.tmp 30) (.tmp 44) 27 5 (.int .u8 0) 1 rfl Tryd.underlying27 info5 rfl (by decide) (by omega) u9000_ l0 y293 _ _ _ (fun k_ => (P0_ k_ ∨ w.heap.size ≤ k_) ∧ some k_ ≠ (.slice Ao20 y293.length co20 : Value).ownBlock) (fun _ => False) rfl rfl ?aO ?aR (fun _ _ h => h) (fun _ h => h.elim) ?aF ?aB ?aS ?aL ?_; (case aR => repeat (first | exact (Kd.R_reads' HO295.out).2.2 | (with_reducible refine Kd.C_alloc ?_ _) | (with_reducible refine Kd.C_drewN ?_ _) | (with_reducible refine Kd.C_drew ?_))); (case aB => exact (by repeat (first | (with_reducible first | exact HB.out | apply below_alloc | apply pw_below_drewN | apply below_drew1) | exact HB.out))); (case aF => exact (fun k_ hk => ⟨(.inr (Nat.le_trans (by first | exact HK.out.1 | exact (show Kept w _ (fun k_ => P0_ k_) from by repeat (first | (with_reducible first | exact HK.out | apply Kept.alloc | apply Kept.drewN | apply Kept.drew) | exact HK.out)).1) hk)), Kd.fresh' (Kd.R_lt (by (with_reducible repeat (first | apply Kd.R_alloc | apply Kd.R_drewN | apply Kd.R_drew)); exact HO295.out)) k_ hk⟩)); (case aO => exact (by (with_reducible repeat (first | apply Kd.R_alloc | apply Kd.R_drewN | apply Kd.R_drew)); exact HO_0.out)); (case aS => exact (below_size (by repeat (first | (with_reducible first | exact HB.out | apply below_alloc | apply pw_below_drewN | apply below_drew1) | exact HB.out)))); (case aL => have := LMc16.out; omega); intro v297 w19 ho hb hg hat; rw [← Ny296.out] at ho; have n0_ := Aside0.mk (Kd.R_after (ok := (fun k_ => (P0_ k_ ∨ w.heap.size ≤ k_))) (by (with_reducible repeat (first | apply Kd.R_alloc | apply Kd.R_drewN | apply Kd.R_drew)); exact Kd.R_mono HO295.out (fun _ hk => ⟨hk.1.1, hk.2⟩)) hg hat); have n1_ := Aside0.mk (hb); have n2_ := Aside0.mk (Kept.of_grown (S := (fun k_ => P0_ k_)) hg (by repeat (first | (with_reducible first | exact HK.out | apply Kept.alloc | apply Kept.drewN | apply Kept.drew) | exact HK.out)) (fun k_ e_ => (HO_0.out.1 k_ e_).1)); have n3_ := Aside0.mk (ho); clear HO295; clear HB; clear HK; clear HO_0; have HO295 := n0_; have HB := n1_; have HK := n2_; have HO298 := n3_; clear n0_ n1_ n2_ n3_; clear ho hb hg hat))
       go_ret
       exact ⟨_, by first | rfl | (simp [errW_none, errW_some] <;> rfl) | (simp [*, errW_none, errW_some] <;> rfl), by (with_reducible repeat (first | apply Kd.R_alloc | apply Kd.R_drewN | apply Kd.R_drew)); exact Kd.R_mono HO298.out (fun _ hk => hk.1), by repeat (first | (with_reducible first | exact HB.out | apply below_alloc | apply pw_below_drewN | apply below_drew1) | exact HB.out), by repeat (first | (with_reducible first | exact HK.out | apply Kept.alloc | apply Kept.drewN | apply Kept.drew) | exact HK.out)⟩
      ·rw [if_neg c16] at H
       exact absurd H (by simp)
     ·rw [if_neg c15] at H
      have c15b0 : decide (x1_3 < 65536) = false := decide_eq_false c15
      clear c15
      obtain ⟨y299, hy299⟩ : ∃ y_ : List Int, y_ = (([(wrap32 (240 + (wrap32 (Int.tdiv x1_3 262144)))) % 256, (wrap32 (128 + (Int.tmod (wrap32 (Int.tdiv x1_3 4096)) 64))) % 256, (wrap32 (128 + (Int.tmod (wrap32 (Int.tdiv x1_3 64)) 64))) % 256, (wrap32 (128 + (Int.tmod x1_3 64))) % 256] : List Int)) := ⟨_, rfl⟩
      replace H : (if l0.length + y299.length < 140737488355328 then (some (l0 ++ y299)) else (none)) = some r := by first | (rw [hy299]; with_reducible exact H) | (have H2_ := (Option.bind_some _ _).symm.trans H; rw [hy299]; with_reducible exact H2_) | (have H2_ := (Option.bind_some _ _).symm.trans H; with_reducible exact H2_) | with_reducible exact H | (rw [hy299]; exact H) | exact H
      have Ny299 := Aside0.mk hy299
      clear hy299
      by_cases c21 : l0.length + y299.length < 140737488355328
      ·rw [if_pos c21] at H
       have LMc21 := Aside0.mk c21
       clear c21
       obtain ⟨y302, hy302⟩ : ∃ y_ : List Int, y_ = (l0 ++ y299) := ⟨_, rfl⟩
       replace H : (some y302) = some r := by first | (rw [hy302]; with_reducible exact H) | (have H2_ := (Option.bind_some _ _).symm.trans H; rw [hy302]; with_reducible exact H2_) | (have H2_ := (Option.bind_some _ _).symm.trans H; with_reducible exact H2_) | with_reducible exact H | (rw [hy302]; exact H) | exact H
       have Ny302 := Aside0.mk hy302
       clear hy302
       obtain rfl := Option.some.inj H
       go_wp2_with (first | ((with_reducible refine gate_dst (N := 65) rfl ?_); refine Kd.R_lit (Kd.int .u8) _ 5 ?hg (N := 65) ?hd (xs := ([(wrap32 (240 + (wrap32 (Int.tdiv x1_3 262144)))) % 256, (wrap32 (128 + (Int.tmod (wrap32 (Int.tdiv x1_3 4096)) 64))) % 256, (wrap32 (128 + (Int.tmod (wrap32 (Int.tdiv x1_3 64)) 64))) % 256, (wrap32 (128 + (Int.tmod x1_3 64))) % 256] : List Int)) (inner := [.int .u8 ((wrap32 (240 + (wrap32 (Int.tdiv x1_3 262144)))) % 256), .int .u8 ((wrap32 (128 + (Int.tmod (wrap32 (Int.tdiv x1_3 4096)) 64))) % 256), .int .u8 ((wrap32 (128 + (Int.tmod (wrap32 (Int.tdiv x1_3 64)) 64))) % 256), .int .u8 ((wrap32 (128 + (Int.tmod x1_3 64))) % 256)]) (ok := fun _ => True) (okp := fun _ => True) ?hr ?hp (fun _ hk => hk) trivial (Below.refl _ _) (Nat.le_refl _) (by simp) ?_; (case hd => rfl); (case hg => rfl); (case hr => first | (go_simp; done) | (go_simp; rfl)); (case hp => exact (Reps.one (show Kd.M (Kd.int .u8) _ _ _ ((wrap32 (240 + (wrap32 (Int.tdiv x1_3 262144)))) % 256) [.int .u8 ((wrap32 (240 + (wrap32 (Int.tdiv x1_3 262144)))) % 256)] from rfl) (Reps.one (show Kd.M (Kd.int .u8) _ _ _ ((wrap32 (128 + (Int.tmod (wrap32 (Int.tdiv x1_3 4096)) 64))) % 256) [.int .u8 ((wrap32 (128 + (Int.tmod (wrap32 (Int.tdiv x1_3 4096)) 64))) % 256)] from rfl) (Reps.one (show Kd.M (Kd.int .u8) _ _ _ ((wrap32 (128 + (Int.tmod (wrap32 (Int.tdiv x1_3 64)) 64))) % 256) [.int .u8 ((wrap32 (128 + (Int.tmod (wrap32 (Int.tdiv x1_3 64)) 64))) % 256)] from rfl) (Reps.one (show Kd.M (Kd.int .u8) _ _ _ ((wrap32 (128 + (Int.tmod x1_3 64))) % 256) [.int .u8 ((wrap32 (128 + (Int.tmod x1_3 64))) % 256)] from rfl) (Reps.none _ _)))))); intro v300 w22 ho23 hb hg_ hnew_; clear hg_ hnew_; (first | rw [← Ny299.out] at ho23 | (simp only [Int.reduceToNat] at ho23; rw [← Ny299.out] at ho23)); have n0_ := Aside0.mk (Kd.R_elder' (by (with_reducible repeat (first | apply Kd.R_alloc | apply Kd.R_drewN | apply Kd.R_drew)); exact HO_0.out) (Kd.R_base ho23) hb); have n1_ := Aside0.mk (Kd.R_lower (Kd.R_new' (Kd.R_newM (M := fun k_ => (P0_ k_ ∨ w.heap.size ≤ k_)) ho23 (by first | exact HK.out.1 | exact (show Kept w _ (fun k_ => P0_ k_) from by repeat (first | (with_reducible first | exact HK.out | apply Kept.alloc | apply Kept.drewN | apply Kept.drew) | exact HK.out)).1) (fun k_ h_ => .inr h_)) (Kd.R_lt (by (with_reducible repeat (first | apply Kd.R_alloc | apply Kd.R_drewN | apply Kd.R_drew)); exact HO_0.out))) (below_size (by repeat (first | (with_reducible first | exact HB.out | apply below_alloc | apply pw_below_drewN | apply below_drew1) | exact HB.out)))); have n2_ := Aside0.mk (Kept.below (S := (fun k_ => P0_ k_)) (by repeat (first | (with_reducible first | exact HK.out | apply Kept.alloc | apply Kept.drewN | apply Kept.drew) | exact HK.out)) hb); have n3_ := Aside0.mk (below_step (by repeat (first | (with_reducible first | exact HB.out | apply below_alloc | apply pw_below_drewN | apply below_drew1) | exact HB.out)) hb); clear HO_0; clear HK; clear HB; have HO_0 := n0_; have HO301 := n1_; have HK := n2_; have HB := n3_; clear n0_ n1_ n2_ n3_; clear hb ho23; obtain ⟨Ao25, co25, eo25⟩ := Kd.R_slice HO301.out; subst eo25) | ((with_reducible refine gate_builtin (b := .append) (xs := #[.tmp 46, .tmp 65]) rfl ?_); at_builtin; refine Kd.R_append_rows (Kd.int .u8) (w0 := w0) w0.heap.size rfl (.tmp 46) (.tmp 65) 27 5 (.int .u8 0) 1 rfl Tryd.underlying27 info5 rfl (by decide) (by omega) u9000_ l0 y299 _ _ _ (fun k_ => (P0_ k_ ∨ w.heap.size ≤ k_) ∧ some k_ ≠ (.slice Ao25 y299.length co25 : Value).ownBlock) (fun _ => False) rfl rfl ?aO ?aR (fun _ _ h => h) (fun _ h => h.elim) ?aF ?aB ?aS ?aL ?_; (case aR => repeat (first | exact (Kd.R_reads' HO301.out).2.2 | (with_reducible refine Kd.C_alloc ?_ _) | (with_reducible refine Kd.C_drewN ?_ _) | (with_reducible refine Kd.C_drew ?_))); (case aB => exact (by repeat (first | (with_reducible first | exact HB.out | apply below_alloc | apply pw_below_drewN | apply below_drew1) | exact HB.out))); (case aF => exact (fun k_ hk => ⟨(.inr (Nat.le_trans (by first | exact HK.out.1 | exact (show Kept w _ (fun k_ => P0_ k_) from by repeat (first | (with_reducible first | exact HK.out | apply Kept.alloc | apply Kept.drewN | apply Kept.drew) | exact HK.out)).1) hk)), Kd.fresh' (Kd.R_lt (by (with_reducible repeat (first | apply Kd.R_alloc | apply Kd.R_drewN | apply Kd.R_drew)); exact HO301.out)) k_ hk⟩)); (case aO => exact (by (with_reducible repeat (first | apply Kd.R_alloc | apply Kd.R_drewN | apply Kd.R_drew)); exact HO_0.out)); (case aS => exact (below_size (by repeat (first | (with_reducible first | exact HB.out | apply below_alloc | apply pw_below_drewN | apply below_drew1) | exact HB.out)))); (case aL => have := LMc21.out; omega); intro v303 w24 ho hb hg hat; rw [← Ny302.out] at ho; have n0_ := Aside0.mk (Kd.R_after (ok := (fun k_ => (P0_ k_ ∨ w.heap.size ≤ k_))) (by (with_reducible repeat (first | apply Kd.R_alloc | apply Kd.R_drewN | apply Kd.R_drew)); exact Kd.R_mono HO301.out (fun _ hk => ⟨hk.1.1, hk.2⟩)) hg hat); have n1_ := Aside0.mk (hb); have n2_ := Aside0.mk (Kept.of_grown (S := (fun k_ => P0_ k_)) hg (by repeat (first | (with_reducible first | exact HK.out | apply Kept.alloc | apply Kept.drewN | apply Kept.drew) | exact HK.out)) (fun k_ e_ => (HO_0.out.1 k_ e_).1)); have n3_ := Aside0.mk (ho); clear HO301; clear HB; clear HK; clear HO_0; have HO301 := n0_; have HB := n1_; have HK := n2_; have HO304 := n3_; clear n0_ n1_ n2_ n3_; clear ho hb hg hat))
       go_ret
       exact ⟨_, by first | rfl | (simp [errW_none, errW_some] <;> rfl) | (simp [*, errW_none, errW_some] <;> rfl), by (with_reducible repeat (first | apply Kd.R_alloc | apply Kd.R_drewN | apply Kd.R_drew)); exact Kd.R_mono HO304.out (fun _ hk => hk.1), by repeat (first | (with_reducible first | exact HB.out | apply below_alloc | apply pw_below_drewN | apply below_drew1) | exact HB.out), by repeat (first | (with_reducible first | exact HK.out | apply Kept.alloc | apply Kept.drewN | apply Kept.drew) | exact HK.out)⟩
      ·rw [if_neg c21] at H
       exact absurd H (by simp)
end Go.Proofs.YtiggjbclbdikmaaDoor.X
namespace Go.Proofs.YtiggjbclbdikmaaDoor.X
open Go.RowKit Go.Proofs.YtiggjbclbdikmaaDoorW.PrintWords Go.Proofs.YtiggjbclbdikmaaDoorW.PrintLast Go.Proofs.YtiggjbclbdikmaaDoorW.PrintMore
attribute [local go_sem] max2_int min2_int max_two min_two max_three min_three max_four min_four   
set_option linter.unusedVariables false
set_option linter.unusedSimpArgs false
def tremaref01_Encode.l0 : Nat → List Int → List Int → Int → Option (List Int)
 | 0, _, _, _ => none
 | k + 1, x0, x3, x4 => if x4 < (x0.length : Int) then (if 0 ≤ x4 then ((tremaref01_Put.f k x3 (rd x0 x4)).bind fun t306 => (tremaref01_Encode.l0 k x0 t306 (wrap64 (x4 + 1)))) else (none)) else (some x3)
def tremaref01_Encode.f (k : Nat) (l0 : List Int) : Option (List Int) := tremaref01_Encode.l0 k l0 ([] : List Int) 0
theorem tremaref01_Encode.mono_l : ∀ k, (∀ y0 y1 y2, LeO (tremaref01_Encode.l0 k y0 y1 y2) (tremaref01_Encode.l0 (k + 1) y0 y1 y2))
 | 0 => fun _ _ _ r h => by simp [tremaref01_Encode.l0] at h
 | k + 1 => by
  have ih0 := tremaref01_Encode.mono_l k
  ·intro y0 y1 y2
   unfold tremaref01_Encode.l0
   repeat' first
   | (with_reducible exact ih0 _ _ _)
   | (with_reducible exact tremaref01_Put.mono _ _ _)
   | (with_reducible exact LeO.refl _)
   | (with_reducible exact LeO.none _)
   | (with_reducible refine LeO.ite ?_ ?_)
   | (with_reducible refine LeO.bind ?_ (fun _ => ?_))
   | exact ih0 _ _ _
   | exact tremaref01_Put.mono _ _ _
   | exact LeO.none _
   | refine LeO.ite ?_ ?_
   | refine LeO.bind ?_ (fun _ => ?_)
theorem tremaref01_Encode.mono : ∀ a0 k, LeO (tremaref01_Encode.f k a0) (tremaref01_Encode.f (k + 1) a0) := by
 intro a0 k
 have ih0 := tremaref01_Encode.mono_l k
 unfold tremaref01_Encode.f
 repeat' first
   | (with_reducible exact ih0 _ _ _)
   | (with_reducible exact tremaref01_Put.mono _ _ _)
   | (with_reducible exact LeO.refl _)
   | (with_reducible exact LeO.none _)
   | (with_reducible refine LeO.ite ?_ ?_)
   | (with_reducible refine LeO.bind ?_ (fun _ => ?_))
   | exact ih0 _ _ _
   | exact tremaref01_Put.mono _ _ _
   | exact LeO.none _
   | refine LeO.ite ?_ ?_
   | refine LeO.bind ?_ (fun _ => ?_)
set_option maxHeartbeats 8000000 in
set_option maxRecDepth 100000 in
theorem tremaref01_Encode.calls (k : Nat) (A0 : Option Addr) (c0 : Nat) (l0 : List Int) (r : List Int) (w : World) (hr0 : Kd.C (Kd.int .i32) w A0 l0.length l0) (hc0 : l0.length ≤ c0) (h : tremaref01_Encode.f k l0 = some r) :
  Calls Tryd.prog 57 #[.slice A0 l0.length c0] w fun e w' => ∃ v0_ : Value, e = .returned (v0_) ∧ Kd.R (Kd.int .u8) 5 w' w.heap.size (fun _ => True) v0_ r ∧ Below w.heap.size w w' := by
 have HR0 := Aside0.mk hr0
 have HC0 := Aside0.mk hc0
 clear hr0 hc0
 have HB := Aside0.mk (Below.refl w.heap.size w)
 have H : (tremaref01_Encode.l0 k l0 ([] : List Int) 0) = some r := h
 clear h
 have H' := Aside0.mk H
 clear H
 go_enter Tryd.func57, Tryd.ntmps57
 go_wp2
 go_loopg [3, 4] k (fun kq v3 v4 w' => ∃ (x3_1 : List Int) (x4_1 : Int), v4 = .int .i64 x4_1 ∧ Aside0 (tremaref01_Encode.l0 kq l0 x3_1 x4_1 = some r) ∧ Aside0 (kq ≤ k) ∧ Aside0 (Kd.R (Kd.int .u8) 5 w' w.heap.size (fun _ => True) v3 x3_1) ∧ Aside0 (Below w.heap.size w w'))
 case atStart => exact ⟨(([] : List Int)), (0), (by first | rfl | (simp; done) | (simp [*]; done)), H', ⟨Nat.le_refl _⟩, ⟨by first | exact Kd.R_nil _ _ _ _ _ | exact Kd.N_nil _ _ _ _ _ | exact Kd.V_nil _ _ _ _ _ | exact Kd.Q_nil _ _ _ _ _ | exact Kd.S_nil _ _ _ _ _⟩, ⟨by repeat (first | (with_reducible first | exact HB.out | apply below_alloc | apply pw_below_drewN | apply below_drew1) | exact HB.out)⟩⟩
 case round =>
  clear H'
  obtain ⟨x3_1, x4_1, rfl, HA, HK1, HO_3, HB⟩ := hrel
  cases gk with
  | zero => exact absurd HA.out (by simp [tremaref01_Encode.l0])
  | succ k1 =>
   have H := HA.out
   clear HA
   simp only [tremaref01_Encode.l0] at H
   by_cases c2 : x4_1 < (l0.length : Int)
   ·rw [if_pos c2] at H
    have c2b0 : decide (x4_1 < (l0.length : Int)) = true := decide_eq_true c2
    clear c2
    by_cases c3 : 0 ≤ x4_1
    ·rw [if_pos c3] at H
     have c3b0 : decide (0 ≤ x4_1) = true := decide_eq_true c3
     clear c3
     replace H := Option.bind_eq_some_iff.mp H
     obtain ⟨t306, A40, H⟩ := H
     replace H : (tremaref01_Encode.l0 k1 l0 t306 (wrap64 (x4_1 + 1))) = some r := H
     have A4 := Aside0.mk A40
     clear A40
     have H' := Aside0.mk H
     clear H
     have p305 : 0 ≤ (x4_1 : Int) := of_decide_eq_true (by first | (with_reducible assumption) | assumption)
     have q305 : x4_1 < (l0.length : Int) := of_decide_eq_true (by first | (with_reducible assumption) | assumption)
     obtain ⟨ad305, e305, hx305_0⟩ := Kd.at_int HR0.out x4_1 p305 q305
     cases e305
     replace hx305_0 := (HB.out.cell (World.block_lt_of_cell? w _ hx305_0)).trans hx305_0
     replace p305 := eq_true p305
     replace q305 := eq_true q305
     obtain ⟨Ao5, co5, eo5⟩ := Kd.R_slice HO_3.out
     subst eo5
     go_wp2_with (first | ((with_reducible refine gate_callee (f := 80) rfl ?_); refine goesL_ (some 16) rfl rfl Tryd.func80 (by kernel_rfl) rfl #[.slice Ao5 x3_1.length co5, .int .i32 (rd l0 x4_1)] rfl (by (try simp only [List.map_toArray, List.map_cons, List.map_nil]); first | done | rfl | (simp only [List.length_drop, List.length_take]; rfl)) ?_; (with_reducible refine (tremaref01_Put.calls k1 (fun k_ => some k_ = (.slice Ao5 x3_1.length co5 : Value).ownBlock) (.slice Ao5 x3_1.length co5) x3_1 (rd l0 x4_1) t306 w _ ?side1 ?side2 A4.out).mono ?_); (case side1 => repeat (first | (with_reducible first | exact HB.out | apply below_alloc | apply pw_below_drewN | apply below_drew1) | exact HB.out)); (case side2 => exact Kd.R_tight rfl HO_3.out); rintro e w6 ⟨v307, rfl, ho0, hb, hkp⟩; refine ⟨_, rfl, ?_⟩; have n0_ := Aside0.mk (Kd.R_mono (ok' := fun k_ => True) ho0 (fun k_ hk_ => trivial)); have n1_ := Aside0.mk (hb); clear HB; clear HO_3; have HO308 := n0_; have HB := n1_; clear n0_ n1_; (try clear hb); (try clear hkp); (try clear ho0)))
     go_roundg k1
     case measure => have := HK1.out; omega
     case rel => exact ⟨(t306), (wrap64 (x4_1 + 1)), (by first | rfl | (simp; done) | (simp [*]; done)), H', ⟨by have := HK1.out; omega⟩, ⟨by (with_reducible repeat (first | apply Kd.R_alloc | apply Kd.R_drewN | apply Kd.R_drew)); exact HO308.out⟩, ⟨by repeat (first | (with_reducible first | exact HB.out | apply below_alloc | apply pw_below_drewN | apply below_drew1) | exact HB.out)⟩⟩
    ·rw [if_neg c3] at H
     exact absurd H (by simp)
   ·rw [if_neg c2] at H
    have c2b0 : decide (x4_1 < (l0.length : Int)) = false := decide_eq_false c2
    clear c2
    obtain rfl := Option.some.inj H
    go_wp2
    go_ret
    exact ⟨_, by first | rfl | (simp [errW_none, errW_some] <;> rfl) | (simp [*, errW_none, errW_some] <;> rfl), by (with_reducible repeat (first | apply Kd.R_alloc | apply Kd.R_drewN | apply Kd.R_drew)); exact HO_3.out, by repeat (first | (with_reducible first | exact HB.out | apply below_alloc | apply pw_below_drewN | apply below_drew1) | exact HB.out)⟩
end Go.Proofs.YtiggjbclbdikmaaDoor.X
namespace Go.Proofs.YtiggjbclbdikmaaDoor.X
open Go.RowKit Go.Proofs.YtiggjbclbdikmaaDoorW.PrintWords Go.Proofs.YtiggjbclbdikmaaDoorW.PrintLast Go.Proofs.YtiggjbclbdikmaaDoorW.PrintMore
attribute [local go_sem] max2_int min2_int max_two min_two max_three min_three max_four min_four   
set_option linter.unusedVariables false
set_option linter.unusedSimpArgs false
def utf_Valid.f (a0 : Int) : Option (Bool) := if a0 ≥ 0 then (if a0 ≤ 1114111 then (if a0 < 55296 then (some true) else (some (decide (a0 > 57343)))) else (some false)) else (some false)
set_option maxHeartbeats 8000000 in
set_option maxRecDepth 100000 in
theorem utf_Valid.calls (a0 : Int) (r : Bool) (w : World) (h : utf_Valid.f a0 = some r) :
  Calls Tryd.prog 79 #[.int .i32 a0] w fun e w' => e = .returned (.bool r) ∧ Drawn0 w w' := by
 have H : (if a0 ≥ 0 then (if a0 ≤ 1114111 then (if a0 < 55296 then (some true) else (some (decide (a0 > 57343)))) else (some false)) else (some false)) = some r := h
 clear h
 by_cases c2 : a0 ≥ 0
 ·rw [if_pos c2] at H
  have c2b0 : decide (0 ≤ a0) = true := decide_eq_true c2
  clear c2
  by_cases c3 : a0 ≤ 1114111
  ·rw [if_pos c3] at H
   have c3b0 : decide (a0 ≤ 1114111) = true := decide_eq_true c3
   clear c3
   by_cases c4 : a0 < 55296
   ·rw [if_pos c4] at H
    have c4b0 : decide (a0 < 55296) = true := decide_eq_true c4
    clear c4
    obtain rfl := Option.some.inj H
    go_enter Tryd.func79, Tryd.ntmps79
    go_wp2
    go_ret
    exact ⟨by first | rfl | (simp; done) | (simp [*]; done), by repeat (first | exact Drawn0.refl _ | apply Drawn0.step)⟩
   ·rw [if_neg c4] at H
    have c4b0 : decide (a0 < 55296) = false := decide_eq_false c4
    clear c4
    obtain rfl := Option.some.inj H
    go_enter Tryd.func79, Tryd.ntmps79
    go_wp2
    go_ret
    exact ⟨by first | rfl | (simp; done) | (simp [*]; done), by repeat (first | exact Drawn0.refl _ | apply Drawn0.step)⟩
  ·rw [if_neg c3] at H
   have c3b0 : decide (a0 ≤ 1114111) = false := decide_eq_false c3
   clear c3
   obtain rfl := Option.some.inj H
   go_enter Tryd.func79, Tryd.ntmps79
   go_wp2
   go_ret
   exact ⟨by first | rfl | (simp; done) | (simp [*]; done), by repeat (first | exact Drawn0.refl _ | apply Drawn0.step)⟩
 ·rw [if_neg c2] at H
  have c2b0 : decide (0 ≤ a0) = false := decide_eq_false c2
  clear c2
  obtain rfl := Option.some.inj H
  go_enter Tryd.func79, Tryd.ntmps79
  go_wp2
  go_ret
  exact ⟨by first | rfl | (simp; done) | (simp [*]; done), by repeat (first | exact Drawn0.refl _ | apply Drawn0.step)⟩
end Go.Proofs.YtiggjbclbdikmaaDoor.X
namespace Go.Proofs.YtiggjbclbdikmaaDoor.X
open Go.RowKit Go.Proofs.YtiggjbclbdikmaaDoorW.PrintWords Go.Proofs.YtiggjbclbdikmaaDoorW.PrintLast Go.Proofs.YtiggjbclbdikmaaDoorW.PrintMore
attribute [local go_sem] max2_int min2_int max_two min_two max_three min_three max_four min_four   
set_option linter.unusedVariables false
set_option linter.unusedSimpArgs false
mutual
def utf_Encode.l0 : Nat → List Int → List Int → Int → Int → Option (List Int)
 | 0, _, _, _, _ => none
 | k + 1, x3, x6, x7, x8 => if x8 < x7 then (if 0 ≤ x8 then (if x8 < (x6.length : Int) then ((utf_Valid.f (rd x6 x8)).bind fun t203 => (if t203 = true then (utf_Encode.j1 k x3 (rd x6 x8) x6 x7 x8) else (utf_Encode.j1 k x3 65533 x6 x7 x8))) else (none)) else (none)) else (some x3)
def utf_Encode.j1 : Nat → List Int → Int → List Int → Int → Int → Option (List Int)
 | 0, _, _, _, _, _ => none
 | k + 1, x3, x5, x6, x7, x8 => if x5 < 128 then (if x3.length < 140737488355328 then (utf_Encode.l0 k (x3 ++ [(x5) % 256]) x6 x7 (wrap64 (x8 + 1))) else (none)) else (if x5 < 2048 then ((some (([Go.bits .or .u8 192 ((x5 / 64) % 256), Go.bits .or .u8 128 ((Go.bits .and .i32 x5 63) % 256)] : List Int) : List Int)).bind fun y207 => (if x3.length + y207.length < 140737488355328 then (utf_Encode.l0 k (x3 ++ y207) x6 x7 (wrap64 (x8 + 1))) else (none))) else (if x5 < 65536 then ((some (([Go.bits .or .u8 224 ((x5 / 4096) % 256), Go.bits .or .u8 128 ((Go.bits .and .i32 (x5 / 64) 63) % 256), Go.bits .or .u8 128 ((Go.bits .and .i32 x5 63) % 256)] : List Int) : List Int)).bind fun y213 => (if x3.length + y213.length < 140737488355328 then (utf_Encode.l0 k (x3 ++ y213) x6 x7 (wrap64 (x8 + 1))) else (none))) else ((some (([Go.bits .or .u8 240 ((x5 / 262144) % 256), Go.bits .or .u8 128 ((Go.bits .and .i32 (x5 / 4096) 63) % 256), Go.bits .or .u8 128 ((Go.bits .and .i32 (x5 / 64) 63) % 256), Go.bits .or .u8 128 ((Go.bits .and .i32 x5 63) % 256)] : List Int) : List Int)).bind fun y219 => (if x3.length + y219.length < 140737488355328 then (utf_Encode.l0 k (x3 ++ y219) x6 x7 (wrap64 (x8 + 1))) else (none)))))
end
def utf_Encode.f (k : Nat) (l0 : List Int) : Option (List Int) := utf_Encode.l0 k ([] : List Int) l0 (l0.length : Int) 0
theorem utf_Encode.mono_l : ∀ k, (∀ y0 y1 y2 y3, LeO (utf_Encode.l0 k y0 y1 y2 y3) (utf_Encode.l0 (k + 1) y0 y1 y2 y3)) ∧ (∀ y0 y1 y2 y3 y4, LeO (utf_Encode.j1 k y0 y1 y2 y3 y4) (utf_Encode.j1 (k + 1) y0 y1 y2 y3 y4))
 | 0 => ⟨fun _ _ _ _ r h => by simp [utf_Encode.l0] at h, fun _ _ _ _ _ r h => by simp [utf_Encode.j1] at h⟩
 | k + 1 => by
  obtain ⟨ih0, ih1⟩ := utf_Encode.mono_l k
  refine ⟨?_, ?_⟩
  ·intro y0 y1 y2 y3
   unfold utf_Encode.l0
   repeat' first
   | (with_reducible exact ih0 _ _ _ _)
   | (with_reducible exact ih1 _ _ _ _ _)
   | (with_reducible exact LeO.refl _)
   | (with_reducible exact LeO.none _)
   | (with_reducible refine LeO.ite ?_ ?_)
   | (with_reducible refine LeO.bind ?_ (fun _ => ?_))
   | exact ih0 _ _ _ _
   | exact ih1 _ _ _ _ _
   | exact LeO.none _
   | refine LeO.ite ?_ ?_
   | refine LeO.bind ?_ (fun _ => ?_)
  ·intro y0 y1 y2 y3 y4
   unfold utf_Encode.j1
   repeat' first
   | (with_reducible exact ih0 _ _ _ _)
   | (with_reducible exact ih1 _ _ _ _ _)
   | (with_reducible exact LeO.refl _)
   | (with_reducible exact LeO.none _)
   | (with_reducible refine LeO.ite ?_ ?_)
   | (with_reducible refine LeO.bind ?_ (fun _ => ?_))
   | exact ih0 _ _ _ _
   | exact ih1 _ _ _ _ _
   | exact LeO.none _
   | refine LeO.ite ?_ ?_
   | refine LeO.bind ?_ (fun _ => ?_)
theorem utf_Encode.mono : ∀ a0 k, LeO (utf_Encode.f k a0) (utf_Encode.f (k + 1) a0) := by
 intro a0 k
 obtain ⟨ih0, ih1⟩ := utf_Encode.mono_l k
 unfold utf_Encode.f
 repeat' first
   | (with_reducible exact ih0 _ _ _ _)
   | (with_reducible exact ih1 _ _ _ _ _)
   | (with_reducible exact LeO.refl _)
   | (with_reducible exact LeO.none _)
   | (with_reducible refine LeO.ite ?_ ?_)
   | (with_reducible refine LeO.bind ?_ (fun _ => ?_))
   | exact ih0 _ _ _ _
   | exact ih1 _ _ _ _ _
   | exact LeO.none _
   | refine LeO.ite ?_ ?_
   | refine LeO.bind ?_ (fun _ => ?_)
set_option maxHeartbeats 8000000 in
set_option maxRecDepth 100000 in
theorem utf_Encode.calls (k : Nat) (A0 : Option Addr) (c0 : Nat) (l0 : List Int) (r : List Int) (w : World) (hr0 : Kd.C (Kd.int .i32) w A0 l0.length l0) (hc0 : l0.length ≤ c0) (h : utf_Encode.f k l0 = some r) :
  Calls Tryd.prog 56 #[.slice A0 l0.length c0] w fun e w' => ∃ v0_ : Value, e = .returned (v0_) ∧ Kd.R (Kd.int .u8) 5 w' w.heap.size (fun _ => True) v0_ r ∧ Below w.heap.size w w' := by
 have HR0 := Aside0.mk hr0
 have HC0 := Aside0.mk hc0
 clear hr0 hc0
 have HB := Aside0.mk (Below.refl w.heap.size w)
 have H : (utf_Encode.l0 k ([] : List Int) l0 (l0.length : Int) 0) = some r := h
 clear h
 have H' := Aside0.mk H
 clear H
 go_enter Tryd.func56, Tryd.ntmps56
 go_wp2
 go_loopg [3, 8] k (fun kq v3 v8 w' => ∃ (x3_1 : List Int) (x8_1 : Int), v8 = .int .i64 x8_1 ∧ Aside0 (utf_Encode.l0 kq x3_1 l0 (l0.length : Int) x8_1 = some r) ∧ Aside0 (kq ≤ k) ∧ Aside0 (Kd.R (Kd.int .u8) 5 w' w.heap.size (fun _ => True) v3 x3_1) ∧ Aside0 (Below w.heap.size w w'))
 case atStart => exact ⟨(([] : List Int)), (0), (by first | rfl | (simp; done) | (simp [*]; done)), H', ⟨Nat.le_refl _⟩, ⟨by first | exact Kd.R_nil _ _ _ _ _ | exact Kd.N_nil _ _ _ _ _ | exact Kd.V_nil _ _ _ _ _ | exact Kd.Q_nil _ _ _ _ _ | exact Kd.S_nil _ _ _ _ _⟩, ⟨by repeat (first | (with_reducible first | exact HB.out | apply below_alloc | apply pw_below_drewN | apply below_drew1) | exact HB.out)⟩⟩
 case round =>
  clear H'
  obtain ⟨x3_1, x8_1, rfl, HA, HK1, HO_3, HB⟩ := hrel
  cases gk with
  | zero => exact absurd HA.out (by simp [utf_Encode.l0])
  | succ k1 =>
   have H := HA.out
   clear HA
   simp only [utf_Encode.l0] at H
   by_cases c2 : x8_1 < (l0.length : Int)
   ·rw [if_pos c2] at H
    have c2b0 : decide (x8_1 < (l0.length : Int)) = true := decide_eq_true c2
    clear c2
    by_cases c3 : 0 ≤ x8_1
    ·rw [if_pos c3] at H
     have c3b0 : decide (0 ≤ x8_1) = true := decide_eq_true c3
     clear c3
     by_cases c4 : x8_1 < (l0.length : Int)
     ·rw [if_pos c4] at H
      have c4b0 : decide (x8_1 < (l0.length : Int)) = true := decide_eq_true c4
      clear c4
      replace H := Option.bind_eq_some_iff.mp H
      obtain ⟨t203, A50, H⟩ := H
      replace H : (if t203 = true then (utf_Encode.j1 k1 x3_1 (rd l0 x8_1) l0 (l0.length : Int) x8_1) else (utf_Encode.j1 k1 x3_1 65533 l0 (l0.length : Int) x8_1)) = some r := H
      have A5 := Aside0.mk A50
      clear A50
      have HC6 := Aside0.mk H
      clear H
      have p202 : 0 ≤ (x8_1 : Int) := of_decide_eq_true (by first | (with_reducible assumption) | assumption)
      have q202 : x8_1 < (l0.length : Int) := of_decide_eq_true (by first | (with_reducible assumption) | assumption)
      obtain ⟨ad202, e202, hx202_0⟩ := Kd.at_int HR0.out x8_1 p202 q202
      cases e202
      replace hx202_0 := (HB.out.cell (World.block_lt_of_cell? w _ hx202_0)).trans hx202_0
      replace p202 := eq_true p202
      replace q202 := eq_true q202
      go_upto_if 14 with (first | ((with_reducible refine gate_callee (f := 79) rfl ?_); refine goesL_ (some 13) rfl rfl Tryd.func79 (by kernel_rfl) rfl #[.int .i32 (rd l0 x8_1)] rfl (by (try simp only [List.map_toArray, List.map_cons, List.map_nil]); first | done | rfl | (simp only [List.length_drop, List.length_take]; rfl)) ?_; (with_reducible refine (utf_Valid.calls (rd l0 x8_1) t203 _ A5.out).mono ?_); rintro e w' ⟨rfl, ⟨nd, rfl⟩⟩; refine ⟨_, rfl, ?_⟩))
      (try simp only [Act.put, List.setIfInBounds_toArray, List.set_cons_zero, List.set_cons_succ])
      go_cut [5] (fun v5 wc => ∃ (kq : Nat) (x5_5 : Int), v5 = .int .i32 x5_5 ∧ Aside0 (utf_Encode.j1 kq x3_1 x5_5 l0 (l0.length : Int) x8_1 = some r) ∧ Aside0 (kq ≤ k1) ∧ Aside0 (Kd.R (Kd.int .u8) 5 wc w.heap.size (fun _ => True) u3 x3_1) ∧ Aside0 (Below w.heap.size w wc))
      case first =>
       have H := HC6.out
       clear HC6
       by_cases c7 : t203 = true
       ·subst c7
        have H1 : (utf_Encode.j1 k1 x3_1 (rd l0 x8_1) l0 (l0.length : Int) x8_1) = some r := by rw [if_pos rfl] at H; exact H
        clear H
        have H := H1
        clear H1
        have H' := Aside0.mk H
        clear H
        go_wp2
        go_meet
        case rel => exact ⟨_, (rd l0 x8_1), (by first | rfl | (simp; done) | (simp [*]; done)), H', ⟨by have := HK1.out; first | omega | exact Nat.le_refl _⟩, ⟨by (with_reducible repeat (first | apply Kd.R_alloc | apply Kd.R_drewN | apply Kd.R_drew)); exact HO_3.out⟩, ⟨by repeat (first | (with_reducible first | exact HB.out | apply below_alloc | apply pw_below_drewN | apply below_drew1) | exact HB.out)⟩⟩
       ·replace c7 := Bool.eq_false_iff.mpr c7
        subst c7
        have H1 : (utf_Encode.j1 k1 x3_1 65533 l0 (l0.length : Int) x8_1) = some r := by rw [if_neg (show ¬ (false = true) by decide)] at H; exact H
        clear H
        have H := H1
        clear H1
        have H' := Aside0.mk H
        clear H
        go_wp2
        go_meet
        case rel => exact ⟨_, (65533), (by first | rfl | (simp; done) | (simp [*]; done)), H', ⟨by have := HK1.out; first | omega | exact Nat.le_refl _⟩, ⟨by (with_reducible repeat (first | apply Kd.R_alloc | apply Kd.R_drewN | apply Kd.R_drew)); exact HO_3.out⟩, ⟨by repeat (first | (with_reducible first | exact HB.out | apply below_alloc | apply pw_below_drewN | apply below_drew1) | exact HB.out)⟩⟩
      case rest =>
       clear HC6
       try clear c2
       try clear c2b0
       try clear p2
       try clear q2
       try clear hx2
       try clear c3
       try clear c3b0
       try clear c4
       try clear c4b0
       try clear c5
       try clear c7
       try clear hx202_0
       try clear p202
       try clear q202
       obtain ⟨kq, x5_5, rfl, HA, HJ5, HO_3, HB⟩ := hcut
       cases kq with
       | zero => exact absurd HA.out (by simp [utf_Encode.j1])
       | succ kj5 =>
        have H := HA.out
        clear HA
        simp only [utf_Encode.j1] at H
        by_cases c8 : x5_5 < 128
        ·rw [if_pos c8] at H
         have c8b0 : decide (x5_5 < 128) = true := decide_eq_true c8
         clear c8
         by_cases c9 : x3_1.length < 140737488355328
         ·rw [if_pos c9] at H
          have LMc9 := Aside0.mk c9
          clear c9
          obtain ⟨y204, hy204⟩ : ∃ y_ : List Int, y_ = (x3_1 ++ [(x5_5) % 256]) := ⟨_, rfl⟩
          replace H : (utf_Encode.l0 kj5 y204 l0 (l0.length : Int) (wrap64 (x8_1 + 1))) = some r := by first | (rw [hy204]; with_reducible exact H) | (have H2_ := (Option.bind_some _ _).symm.trans H; rw [hy204]; with_reducible exact H2_) | (have H2_ := (Option.bind_some _ _).symm.trans H; with_reducible exact H2_) | with_reducible exact H | (rw [hy204]; exact H) | exact H
          have Ny204 := Aside0.mk hy204
          clear hy204
          have H' := Aside0.mk H
          clear H
          go_wp2_with (first | ((with_reducible refine gate_builtin (b := .append) (xs := #[.tmp 39, .tmp 42]) rfl ?_); at_builtin; refine Kd.R_append (Kd.int .u8) (w0 := w) w.heap.size rfl (.tmp 39) (.tmp 42) 27 5 (.int .u8 0) 1 rfl Tryd.underlying27 info5 rfl (by decide) (by omega) u3 x3_1 ((x5_5) % 256) [.int .u8 ((x5_5) % 256)] (fun _ => True) (fun _ => False) rfl rfl ?aP (fun _ hk => hk.elim) ?aF ?aO ?aB ?aS ?aL ?_; (case aP => exact rfl); (case aB => exact (by repeat (first | (with_reducible first | exact HB.out | apply below_alloc | apply pw_below_drewN | apply below_drew1) | exact HB.out))); (case aF => exact (fun _ _ => trivial)); (case aO => exact (by (with_reducible repeat (first | apply Kd.R_alloc | apply Kd.R_drewN | apply Kd.R_drew)); exact HO_3.out)); (case aS => exact (below_size (by repeat (first | (with_reducible first | exact HB.out | apply below_alloc | apply pw_below_drewN | apply below_drew1) | exact HB.out)))); (case aL => have := LMc9.out; omega); intro v205 w10 ho hb hg hat; rw [← Ny204.out] at ho; have n0_ := Aside0.mk (hb); have n1_ := Aside0.mk (ho); clear HB; clear HO_3; have HB := n0_; have HO206 := n1_; clear n0_ n1_; clear ho hb hg hat))
          go_roundg kj5
          case measure => have := HK1.out; have := HJ5.out; omega
          case rel => exact ⟨(y204), (wrap64 (x8_1 + 1)), (by first | rfl | (simp; done) | (simp [*]; done)), H', ⟨by have := HK1.out; have := HJ5.out; omega⟩, ⟨by (with_reducible repeat (first | apply Kd.R_alloc | apply Kd.R_drewN | apply Kd.R_drew)); exact HO206.out⟩, ⟨by repeat (first | (with_reducible first | exact HB.out | apply below_alloc | apply pw_below_drewN | apply below_drew1) | exact HB.out)⟩⟩
         ·rw [if_neg c9] at H
          exact absurd H (by simp)
        ·rw [if_neg c8] at H
         have c8b0 : decide (x5_5 < 128) = false := decide_eq_false c8
         clear c8
         by_cases c11 : x5_5 < 2048
         ·rw [if_pos c11] at H
          have c11b0 : decide (x5_5 < 2048) = true := decide_eq_true c11
          clear c11
          obtain ⟨y207, hy207⟩ : ∃ y_ : List Int, y_ = (([Go.bits .or .u8 192 ((x5_5 / 64) % 256), Go.bits .or .u8 128 ((Go.bits .and .i32 x5_5 63) % 256)] : List Int)) := ⟨_, rfl⟩
          replace H : (if x3_1.length + y207.length < 140737488355328 then (utf_Encode.l0 kj5 (x3_1 ++ y207) l0 (l0.length : Int) (wrap64 (x8_1 + 1))) else (none)) = some r := by first | (rw [hy207]; with_reducible exact H) | (have H2_ := (Option.bind_some _ _).symm.trans H; rw [hy207]; with_reducible exact H2_) | (have H2_ := (Option.bind_some _ _).symm.trans H; with_reducible exact H2_) | with_reducible exact H | (rw [hy207]; exact H) | exact H
          have Ny207 := Aside0.mk hy207
          clear hy207
          by_cases c12 : x3_1.length + y207.length < 140737488355328
          ·rw [if_pos c12] at H
           have LMc12 := Aside0.mk c12
           clear c12
           obtain ⟨y210, hy210⟩ : ∃ y_ : List Int, y_ = (x3_1 ++ y207) := ⟨_, rfl⟩
           replace H : (utf_Encode.l0 kj5 y210 l0 (l0.length : Int) (wrap64 (x8_1 + 1))) = some r := by first | (rw [hy210]; with_reducible exact H) | (have H2_ := (Option.bind_some _ _).symm.trans H; rw [hy210]; with_reducible exact H2_) | (have H2_ := (Option.bind_some _ _).symm.trans H; with_reducible exact H2_) | with_reducible exact H | (rw [hy210]; exact H) | exact H
           have Ny210 := Aside0.mk hy210
           clear hy210
           have H' := Aside0.mk H
           clear H
           go_wp2_with (first | ((with_reducible refine gate_dst (N := 56) rfl ?_); refine Kd.R_lit (Kd.int .u8) _ 5 ?hg (N := 56) ?hd (xs := ([Go.bits .or .u8 192 ((x5_5 / 64) % 256), Go.bits .or .u8 128 ((Go.bits .and .i32 x5_5 63) % 256)] : List Int)) (inner := [.int .u8 (Go.bits .or .u8 192 ((x5_5 / 64) % 256)), .int .u8 (Go.bits .or .u8 128 ((Go.bits .and .i32 x5_5 63) % 256))]) (ok := fun _ => True) (okp := fun _ => True) ?hr ?hp (fun _ hk => hk) trivial (Below.refl _ _) (Nat.le_refl _) (by simp) ?_; (case hd => rfl); (case hg => rfl); (case hr => first | (go_simp; done) | (go_simp; rfl)); (case hp => exact (Reps.one (show Kd.M (Kd.int .u8) _ _ _ (Go.bits .or .u8 192 ((x5_5 / 64) % 256)) [.int .u8 (Go.bits .or .u8 192 ((x5_5 / 64) % 256))] from rfl) (Reps.one (show Kd.M (Kd.int .u8) _ _ _ (Go.bits .or .u8 128 ((Go.bits .and .i32 x5_5 63) % 256)) [.int .u8 (Go.bits .or .u8 128 ((Go.bits .and .i32 x5_5 63) % 256))] from rfl) (Reps.none _ _)))); intro v208 w13 ho14 hb hg_ hnew_; clear hg_ hnew_; (first | rw [← Ny207.out] at ho14 | (simp only [Int.reduceToNat] at ho14; rw [← Ny207.out] at ho14)); have n0_ := Aside0.mk (Kd.R_elder' (by (with_reducible repeat (first | apply Kd.R_alloc | apply Kd.R_drewN | apply Kd.R_drew)); exact HO_3.out) (Kd.R_base ho14) hb); have n1_ := Aside0.mk (Kd.R_lower (Kd.R_new' ho14 (Kd.R_lt (by (with_reducible repeat (first | apply Kd.R_alloc | apply Kd.R_drewN | apply Kd.R_drew)); exact HO_3.out))) (below_size (by repeat (first | (with_reducible first | exact HB.out | apply below_alloc | apply pw_below_drewN | apply below_drew1) | exact HB.out)))); have n2_ := Aside0.mk (below_step (by repeat (first | (with_reducible first | exact HB.out | apply below_alloc | apply pw_below_drewN | apply below_drew1) | exact HB.out)) hb); clear HO_3; clear HB; have HO_3 := n0_; have HO209 := n1_; have HB := n2_; clear n0_ n1_ n2_; clear hb ho14; obtain ⟨Ao16, co16, eo16⟩ := Kd.R_slice HO209.out; subst eo16) | ((with_reducible refine gate_builtin (b := .append) (xs := #[.tmp 47, .tmp 56]) rfl ?_); at_builtin; refine Kd.R_append_rows (Kd.int .u8) (w0 := w) w.heap.size rfl (.tmp 47) (.tmp 56) 27 5 (.int .u8 0) 1 rfl Tryd.underlying27 info5 rfl (by decide) (by omega) u3 x3_1 y207 _ _ _ (fun k_ => some k_ ≠ (.slice Ao16 y207.length co16 : Value).ownBlock) (fun _ => False) rfl rfl ?aO ?aR (fun _ _ h => h) (fun _ h => h.elim) ?aF ?aB ?aS ?aL ?_; (case aR => repeat (first | exact (Kd.R_reads' HO209.out).2.2 | (with_reducible refine Kd.C_alloc ?_ _) | (with_reducible refine Kd.C_drewN ?_ _) | (with_reducible refine Kd.C_drew ?_))); (case aB => exact (by repeat (first | (with_reducible first | exact HB.out | apply below_alloc | apply pw_below_drewN | apply below_drew1) | exact HB.out))); (case aF => exact (fun k_ hk => Kd.fresh' (Kd.R_lt (by (with_reducible repeat (first | apply Kd.R_alloc | apply Kd.R_drewN | apply Kd.R_drew)); exact HO209.out)) k_ hk)); (case aO => exact (by (with_reducible repeat (first | apply Kd.R_alloc | apply Kd.R_drewN | apply Kd.R_drew)); exact Kd.R_mono HO_3.out (fun _ hk => hk.2))); (case aS => exact (below_size (by repeat (first | (with_reducible first | exact HB.out | apply below_alloc | apply pw_below_drewN | apply below_drew1) | exact HB.out)))); (case aL => have := LMc12.out; omega); intro v211 w15 ho hb hg hat; rw [← Ny210.out] at ho; have n0_ := Aside0.mk (Kd.R_after (ok := (fun _ => True)) (by (with_reducible repeat (first | apply Kd.R_alloc | apply Kd.R_drewN | apply Kd.R_drew)); exact HO209.out) hg hat); have n1_ := Aside0.mk (hb); have n2_ := Aside0.mk (ho); clear HO209; clear HB; clear HO_3; have HO209 := n0_; have HB := n1_; have HO212 := n2_; clear n0_ n1_ n2_; clear ho hb hg hat))
           go_roundg kj5
           case measure => have := HK1.out; have := HJ5.out; omega
           case rel => exact ⟨(y210), (wrap64 (x8_1 + 1)), (by first | rfl | (simp; done) | (simp [*]; done)), H', ⟨by have := HK1.out; have := HJ5.out; omega⟩, ⟨by (with_reducible repeat (first | apply Kd.R_alloc | apply Kd.R_drewN | apply Kd.R_drew)); exact Kd.R_mono HO212.out (fun _ hk => trivial)⟩, ⟨by repeat (first | (with_reducible first | exact HB.out | apply below_alloc | apply pw_below_drewN | apply below_drew1) | exact HB.out)⟩⟩
          ·rw [if_neg c12] at H
           exact absurd H (by simp)
         ·rw [if_neg c11] at H
          have c11b0 : decide (x5_5 < 2048) = false := decide_eq_false c11
          clear c11
          by_cases c17 : x5_5 < 65536
          ·rw [if_pos c17] at H
           have c17b0 : decide (x5_5 < 65536) = true := decide_eq_true c17
           clear c17
           obtain ⟨y213, hy213⟩ : ∃ y_ : List Int, y_ = (([Go.bits .or .u8 224 ((x5_5 / 4096) % 256), Go.bits .or .u8 128 ((Go.bits .and .i32 (x5_5 / 64) 63) % 256), Go.bits .or .u8 128 ((Go.bits .and .i32 x5_5 63) % 256)] : List Int)) := ⟨_, rfl⟩
           replace H : (if x3_1.length + y213.length < 140737488355328 then (utf_Encode.l0 kj5 (x3_1 ++ y213) l0 (l0.length : Int) (wrap64 (x8_1 + 1))) else (none)) = some r := by first | (rw [hy213]; with_reducible exact H) | (have H2_ := (Option.bind_some _ _).symm.trans H; rw [hy213]; with_reducible exact H2_) | (have H2_ := (Option.bind_some _ _).symm.trans H; with_reducible exact H2_) | with_reducible exact H | (rw [hy213]; exact H) | exact H
           have Ny213 := Aside0.mk hy213
           clear hy213
           by_cases c18 : x3_1.length + y213.length < 140737488355328
           ·rw [if_pos c18] at H
            have LMc18 := Aside0.mk c18
            clear c18
            obtain ⟨y216, hy216⟩ : ∃ y_ : List Int, y_ = (x3_1 ++ y213) := ⟨_, rfl⟩
            replace H : (utf_Encode.l0 kj5 y216 l0 (l0.length : Int) (wrap64 (x8_1 + 1))) = some r := by first | (rw [hy216]; with_reducible exact H) | (have H2_ := (Option.bind_some _ _).symm.trans H; rw [hy216]; with_reducible exact H2_) | (have H2_ := (Option.bind_some _ _).symm.trans H; with_reducible exact H2_) | with_reducible exact H | (rw [hy216]; exact H) | exact H
            have Ny216 := Aside0.mk hy216
            clear hy216
            have H' := Aside0.mk H
            clear H
            go_wp2_with (first | ((with_reducible refine gate_dst (N := 75) rfl ?_); refine Kd.R_lit (Kd.int .u8) _ 5 ?hg (N := 75) ?hd (xs := ([Go.bits .or .u8 224 ((x5_5 / 4096) % 256), Go.bits .or .u8 128 ((Go.bits .and .i32 (x5_5 / 64) 63) % 256), Go.bits .or .u8 128 ((Go.bits .and .i32 x5_5 63) % 256)] : List Int)) (inner := [.int .u8 (Go.bits .or .u8 224 ((x5_5 / 4096) % 256)), .int .u8 (Go.bits .or .u8 128 ((Go.bits .and .i32 (x5_5 / 64) 63) % 256)), .int .u8 (Go.bits .or .u8 128 ((Go.bits .and .i32 x5_5 63) % 256))]) (ok := fun _ => True) (okp := fun _ => True) ?hr ?hp (fun _ hk => hk) trivial (Below.refl _ _) (Nat.le_refl _) (by simp) ?_; (case hd => rfl); (case hg => rfl); (case hr => first | (go_simp; done) | (go_simp; rfl)); (case hp => exact (Reps.one (show Kd.M (Kd.int .u8) _ _ _ (Go.bits .or .u8 224 ((x5_5 / 4096) % 256)) [.int .u8 (Go.bits .or .u8 224 ((x5_5 / 4096) % 256))] from rfl) (Reps.one (show Kd.M (Kd.int .u8) _ _ _ (Go.bits .or .u8 128 ((Go.bits .and .i32 (x5_5 / 64) 63) % 256)) [.int .u8 (Go.bits .or .u8 128 ((Go.bits .and .i32 (x5_5 / 64) 63) % 256))] from rfl) (Reps.one (show Kd.M (Kd.int .u8) _ _ _ (Go.bits .or .u8 128 ((Go.bits .and .i32 x5_5 63) % 256)) [.int .u8 (Go.bits .or .u8 128 ((Go.bits .and .i32 x5_5 63) % 256))] from rfl) (Reps.none _ _))))); intro v214 w19 ho20 hb hg_ hnew_; clear hg_ hnew_; (first | rw [← Ny213.out] at ho20 | (simp only [Int.reduceToNat] at ho20; rw [← Ny213.out] at ho20)); have n0_ := Aside0.mk (Kd.R_elder' (by (with_reducible repeat (first | apply Kd.R_alloc | apply Kd.R_drewN | apply Kd.R_drew)); exact HO_3.out) (Kd.R_base ho20) hb); have n1_ := Aside0.mk (Kd.R_lower (Kd.R_new' ho20 (Kd.R_lt (by (with_reducible repeat (first | apply Kd.R_alloc | apply Kd.R_drewN | apply Kd.R_drew)); exact HO_3.out))) (below_size (by repeat (first | (with_reducible first | exact HB.out | apply below_alloc | apply pw_below_drewN | apply below_drew1) | exact HB.out)))); have n2_ := Aside0.mk (below_step (by repeat (first | (with_reducible first | exact HB.out | apply below_alloc | apply pw_below_drewN | apply below_drew1) | exact HB.out)) hb); clear HO_3; clear HB; have HO_3 := n0_; have HO215 := n1_; have HB := n2_; clear n0_ n1_ n2_; clear hb ho20; obtain ⟨Ao22, co22, eo22⟩ := Kd.R_slice HO215.out; subst eo22) | ((with_reducible refine gate_builtin (b := .append) (xs := #[.tmp 61, .tmp 75]) rfl ?_); at_builtin; refine Kd.R_append_rows (Kd.int .u8) (w0 := w) w.heap.size rfl (.tmp 61) (.tmp 75) 27 5 (.int .u8 0) 1 rfl Tryd.underlying27 info5 rfl (by decide) (by omega) u3 x3_1 y213 _ _ _ (fun k_ => some k_ ≠ (.slice Ao22 y213.length co22 : Value).ownBlock) (fun _ => False) rfl rfl ?aO ?aR (fun _ _ h => h) (fun _ h => h.elim) ?aF ?aB ?aS ?aL ?_; (case aR => repeat (first | exact (Kd.R_reads' HO215.out).2.2 | (with_reducible refine Kd.C_alloc ?_ _) | (with_reducible refine Kd.C_drewN ?_ _) | (with_reducible refine Kd.C_drew ?_))); (case aB => exact (by repeat (first | (with_reducible first | exact HB.out | apply below_alloc | apply pw_below_drewN | apply below_drew1) | exact HB.out))); (case aF => exact (fun k_ hk => Kd.fresh' (Kd.R_lt (by (with_reducible repeat (first | apply Kd.R_alloc | apply Kd.R_drewN | apply Kd.R_drew)); exact HO215.out)) k_ hk)); (case aO => exact (by (with_reducible repeat (first | apply Kd.R_alloc | apply Kd.R_drewN | apply Kd.R_drew)); exact Kd.R_mono HO_3.out (fun _ hk => hk.2))); (case aS => exact (below_size (by repeat (first | (with_reducible first | exact HB.out | apply below_alloc | apply pw_below_drewN | apply below_drew1) | exact HB.out)))); (case aL => have := LMc18.out; omega); intro v217 w21 ho hb hg hat; rw [← Ny216.out] at ho; have n0_ := Aside0.mk (Kd.R_after (ok := (fun _ => True)) (by (with_reducible repeat (first | apply Kd.R_alloc | apply Kd.R_drewN | apply Kd.R_drew)); exact HO215.out) hg hat); have n1_ := Aside0.mk (hb); have n2_ := Aside0.mk (ho); clear HO215; clear HB; clear HO_3; have HO215 := n0_; have HB := n1_; have HO218 := n2_; clear n0_ n1_ n2_; clear ho hb hg hat))
            go_roundg kj5
            case measure => have := HK1.out; have := HJ5.out; omega
            case rel => exact ⟨(y216), (wrap64 (x8_1 + 1)), (by first | rfl | (simp; done) | (simp [*]; done)), H', ⟨by have := HK1.out; have := HJ5.out; omega⟩, ⟨by (with_reducible repeat (first | apply Kd.R_alloc | apply Kd.R_drewN | apply Kd.R_drew)); exact Kd.R_mono HO218.out (fun _ hk => trivial)⟩, ⟨by repeat (first | (with_reducible first | exact HB.out | apply below_alloc | apply pw_below_drewN | apply below_drew1) | exact HB.out)⟩⟩
           ·rw [if_neg c18] at H
            exact absurd H (by simp)
          ·rw [if_neg c17] at H
           have c17b0 : decide (x5_5 < 65536) = false := decide_eq_false c17
           clear c17
           obtain ⟨y219, hy219⟩ : ∃ y_ : List Int, y_ = (([Go.bits .or .u8 240 ((x5_5 / 262144) % 256), Go.bits .or .u8 128 ((Go.bits .and .i32 (x5_5 / 4096) 63) % 256), Go.bits .or .u8 128 ((Go.bits .and .i32 (x5_5 / 64) 63) % 256), Go.bits .or .u8 128 ((Go.bits .and .i32 x5_5 63) % 256)] : List Int)) := ⟨_, rfl⟩
           replace H : (if x3_1.length + y219.length < 140737488355328 then (utf_Encode.l0 kj5 (x3_1 ++ y219) l0 (l0.length : Int) (wrap64 (x8_1 + 1))) else (none)) = some r := by first | (rw [hy219]; with_reducible exact H) | (have H2_ := (Option.bind_some _ _).symm.trans H; rw [hy219]; with_reducible exact H2_) | (have H2_ := (Option.bind_some _ _).symm.trans H; with_reducible exact H2_) | with_reducible exact H | (rw [hy219]; exact H) | exact H
           have Ny219 := Aside0.mk hy219
           clear hy219
           by_cases c23 : x3_1.length + y219.length < 140737488355328
           ·rw [if_pos c23] at H
            have LMc23 := Aside0.mk c23
            clear c23
            obtain ⟨y222, hy222⟩ : ∃ y_ : List Int, y_ = (x3_1 ++ y219) := ⟨_, rfl⟩
            replace H : (utf_Encode.l0 kj5 y222 l0 (l0.length : Int) (wrap64 (x8_1 + 1))) = some r := by first | (rw [hy222]; with_reducible exact H) | (have H2_ := (Option.bind_some _ _).symm.trans H; rw [hy222]; with_reducible exact H2_) | (have H2_ := (Option.bind_some _ _).symm.trans H; with_reducible exact H2_) | with_reducible exact H | (rw [hy222]; exact H) | exact H
            have Ny222 := Aside0.mk hy222
            clear hy222
            have H' := Aside0.mk H
            clear H
            go_wp2_with (first | ((with_reducible refine gate_dst (N := 34) rfl ?_); refine Kd.R_lit (Kd.int .u8) _ 5 ?hg (N := 34) ?hd (xs := ([Go.bits .or .u8 240 ((x5_5 / 262144) % 256), Go.bits .or .u8 128 ((Go.bits .and .i32 (x5_5 / 4096) 63) % 256), Go.bits .or .u8 128 ((Go.bits .and .i32 (x5_5 / 64) 63) % 256), Go.bits .or .u8 128 ((Go.bits .and .i32 x5_5 63) % 256)] : List Int)) (inner := [.int .u8 (Go.bits .or .u8 240 ((x5_5 / 262144) % 256)), .int .u8 (Go.bits .or .u8 128 ((Go.bits .and .i32 (x5_5 / 4096) 63) % 256)), .int .u8 (Go.bits .or .u8 128 ((Go.bits .and .i32 (x5_5 / 64) 63) % 256)), .int .u8 (Go.bits .or .u8 128 ((Go.bits .and .i32 x5_5 63) % 256))]) (ok := fun _ => True) (okp := fun _ => True) ?hr ?hp (fun _ hk => hk) trivial (Below.refl _ _) (Nat.le_refl _) (by simp) ?_; (case hd => rfl); (case hg => rfl); (case hr => first | (go_simp; done) | (go_simp; rfl)); (case hp => exact (Reps.one (show Kd.M (Kd.int .u8) _ _ _ (Go.bits .or .u8 240 ((x5_5 / 262144) % 256)) [.int .u8 (Go.bits .or .u8 240 ((x5_5 / 262144) % 256))] from rfl) (Reps.one (show Kd.M (Kd.int .u8) _ _ _ (Go.bits .or .u8 128 ((Go.bits .and .i32 (x5_5 / 4096) 63) % 256)) [.int .u8 (Go.bits .or .u8 128 ((Go.bits .and .i32 (x5_5 / 4096) 63) % 256))] from rfl) (Reps.one (show Kd.M (Kd.int .u8) _ _ _ (Go.bits .or .u8 128 ((Go.bits .and .i32 (x5_5 / 64) 63) % 256)) [.int .u8 (Go.bits .or .u8 128 ((Go.bits .and .i32 (x5_5 / 64) 63) % 256))] from rfl) (Reps.one (show Kd.M (Kd.int .u8) _ _ _ (Go.bits .or .u8 128 ((Go.bits .and .i32 x5_5 63) % 256)) [.int .u8 (Go.bits .or .u8 128 ((Go.bits .and .i32 x5_5 63) % 256))] from rfl) (Reps.none _ _)))))); intro v220 w24 ho25 hb hg_ hnew_; clear hg_ hnew_; (first | rw [← Ny219.out] at ho25 | (simp only [Int.reduceToNat] at ho25; rw [← Ny219.out] at ho25)); have n0_ := Aside0.mk (Kd.R_elder' (by (with_reducible repeat (first | apply Kd.R_alloc | apply Kd.R_drewN | apply Kd.R_drew)); exact HO_3.out) (Kd.R_base ho25) hb); have n1_ := Aside0.mk (Kd.R_lower (Kd.R_new' ho25 (Kd.R_lt (by (with_reducible repeat (first | apply Kd.R_alloc | apply Kd.R_drewN | apply Kd.R_drew)); exact HO_3.out))) (below_size (by repeat (first | (with_reducible first | exact HB.out | apply below_alloc | apply pw_below_drewN | apply below_drew1) | exact HB.out)))); have n2_ := Aside0.mk (below_step (by repeat (first | (with_reducible first | exact HB.out | apply below_alloc | apply pw_below_drewN | apply below_drew1) | exact HB.out)) hb); clear HO_3; clear HB; have HO_3 := n0_; have HO221 := n1_; have HB := n2_; clear n0_ n1_ n2_; clear hb ho25; obtain ⟨Ao27, co27, eo27⟩ := Kd.R_slice HO221.out; subst eo27) | ((with_reducible refine gate_builtin (b := .append) (xs := #[.tmp 15, .tmp 34]) rfl ?_); at_builtin; refine Kd.R_append_rows (Kd.int .u8) (w0 := w) w.heap.size rfl (.tmp 15) (.tmp 34) 27 5 (.int .u8 0) 1 rfl Tryd.underlying27 info5 rfl (by decide) (by omega) u3 x3_1 y219 _ _ _ (fun k_ => some k_ ≠ (.slice Ao27 y219.length co27 : Value).ownBlock) (fun _ => False) rfl rfl ?aO ?aR (fun _ _ h => h) (fun _ h => h.elim) ?aF ?aB ?aS ?aL ?_; (case aR => repeat (first | exact (Kd.R_reads' HO221.out).2.2 | (with_reducible refine Kd.C_alloc ?_ _) | (with_reducible refine Kd.C_drewN ?_ _) | (with_reducible refine Kd.C_drew ?_))); (case aB => exact (by repeat (first | (with_reducible first | exact HB.out | apply below_alloc | apply pw_below_drewN | apply below_drew1) | exact HB.out))); (case aF => exact (fun k_ hk => Kd.fresh' (Kd.R_lt (by (with_reducible repeat (first | apply Kd.R_alloc | apply Kd.R_drewN | apply Kd.R_drew)); exact HO221.out)) k_ hk)); (case aO => exact (by (with_reducible repeat (first | apply Kd.R_alloc | apply Kd.R_drewN | apply Kd.R_drew)); exact Kd.R_mono HO_3.out (fun _ hk => hk.2))); (case aS => exact (below_size (by repeat (first | (with_reducible first | exact HB.out | apply below_alloc | apply pw_below_drewN | apply below_drew1) | exact HB.out)))); (case aL => have := LMc23.out; omega); intro v223 w26 ho hb hg hat; rw [← Ny222.out] at ho; have n0_ := Aside0.mk (Kd.R_after (ok := (fun _ => True)) (by (with_reducible repeat (first | apply Kd.R_alloc | apply Kd.R_drewN | apply Kd.R_drew)); exact HO221.out) hg hat); have n1_ := Aside0.mk (hb); have n2_ := Aside0.mk (ho); clear HO221; clear HB; clear HO_3; have HO221 := n0_; have HB := n1_; have HO224 := n2_; clear n0_ n1_ n2_; clear ho hb hg hat))
            go_roundg kj5
            case measure => have := HK1.out; have := HJ5.out; omega
            case rel => exact ⟨(y222), (wrap64 (x8_1 + 1)), (by first | rfl | (simp; done) | (simp [*]; done)), H', ⟨by have := HK1.out; have := HJ5.out; omega⟩, ⟨by (with_reducible repeat (first | apply Kd.R_alloc | apply Kd.R_drewN | apply Kd.R_drew)); exact Kd.R_mono HO224.out (fun _ hk => trivial)⟩, ⟨by repeat (first | (with_reducible first | exact HB.out | apply below_alloc | apply pw_below_drewN | apply below_drew1) | exact HB.out)⟩⟩
           ·rw [if_neg c23] at H
            exact absurd H (by simp)
     ·rw [if_neg c4] at H
      exact absurd H (by simp)
    ·rw [if_neg c3] at H
     exact absurd H (by simp)
   ·rw [if_neg c2] at H
    have c2b0 : decide (x8_1 < (l0.length : Int)) = false := decide_eq_false c2
    clear c2
    obtain rfl := Option.some.inj H
    go_wp2
    go_ret
    exact ⟨_, by first | rfl | (simp [errW_none, errW_some] <;> rfl) | (simp [*, errW_none, errW_some] <;> rfl), by (with_reducible repeat (first | apply Kd.R_alloc | apply Kd.R_drewN | apply Kd.R_drew)); exact HO_3.out, by repeat (first | (with_reducible first | exact HB.out | apply below_alloc | apply pw_below_drewN | apply below_drew1) | exact HB.out)⟩
end Go.Proofs.YtiggjbclbdikmaaDoor.X
namespace Go.Proofs.YtiggjbclbdikmaaDoor.En
set_option linter.unusedVariables false
set_option linter.unusedSimpArgs false
open Go.RowKit Go.Proofs.YtiggjbclbdikmaaDoorW.PrintWords Go.Proofs.YtiggjbclbdikmaaDoor.Hp
def vld (r : Int) : Bool := decide (0 ≤ r ∧ r ≤ 1114111 ∧ (r < 55296 ∨ 57343 < r))
def encv (r : Int) : List Int :=
  if r < 128 then [r] else if r < 2048 then [192 + r / 64, 128 + r % 64]
  else if r < 65536 then [224 + r / 4096, 128 + r / 64 % 64, 128 + r % 64]
  else [240 + r / 262144, 128 + r / 4096 % 64, 128 + r / 64 % 64, 128 + r % 64]
def fixr (r : Int) : Int := if vld r = true then r else 65533
def enc1 (r : Int) : List Int := encv (fixr r)
def enc : List Int → List Int
  | [] => []
  | r :: l => enc1 r ++ enc l
theorem encv_len (r : Int) : 1 ≤ (encv r).length ∧ (encv r).length ≤ 4 := by
  unfold encv; split <;> (try split) <;> (try split) <;> simp
theorem enc_len : ∀ l, l.length ≤ (enc l).length ∧ (enc l).length ≤ 4 * l.length
  | [] => by simp [enc]
  | r :: l => by
    have := enc_len l
    have h := encv_len (fixr r)
    simp only [enc, enc1, List.length_append, List.length_cons]
    omega
theorem fixr_ok (r : Int) : 0 ≤ fixr r ∧ fixr r ≤ 1114111 ∧ vld (fixr r) = true := by
  unfold fixr
  split
  · rename_i h
    have h2 := h
    simp only [vld, decide_eq_true_eq] at h2
    exact ⟨h2.1, h2.2.1, h⟩
  · exact ⟨by decide, by decide, by decide⟩
theorem i32_and63 (x : Int) (h0 : 0 ≤ x) (h1 : x < 2147483648) : Go.bits .and .i32 x 63 = x % 64 := bits_mask .i32 31 (by decide) wraps_i32 6 (by decide) x h0 (by omega)
theorem valid_pure (r : Int) : X.utf_Valid.f r = some (vld r) := by
  unfold X.utf_Valid.f vld
  split
  · split
    · split
      · congr 1; symm; rw [decide_eq_true_eq]; omega
      · congr 1; rw [decide_eq_decide]; omega
    · congr 1; symm; rw [decide_eq_false_iff_not]; omega
  · congr 1; symm; rw [decide_eq_false_iff_not]; omega
theorem ref_valid (r : Int) : X.tremaref01_Valid.f r = some (vld r) := by
  unfold X.tremaref01_Valid.f vld
  split
  · split
    · split
      · congr 1
        rw [Bool.eq_iff_iff]
        simp only [Bool.not_eq_true', decide_eq_false_iff_not, decide_eq_true_eq]; omega
      · congr 1; symm; simp only [Bool.not_false, decide_eq_true_eq]; omega
    · congr 1; symm; rw [decide_eq_false_iff_not]; omega
  · congr 1; symm; rw [decide_eq_false_iff_not]; omega
theorem j1_pure (k : Nat) (acc : List Int) (r : Int) (l : List Int) (n i : Int) (h0 : 0 ≤ r) (h1 : r ≤ 1114111) (ha : acc.length + 4 < 140737488355328) :
    X.utf_Encode.j1 (k + 1) acc r l n i = X.utf_Encode.l0 k (acc ++ encv r) l n (wrap64 (i + 1)) := by
  simp only [X.utf_Encode.j1, encv]
  split
  · rw [if_pos (by omega), show r % 256 = r by omega]
  · split
    · simp only [Option.bind_some, List.length_cons, List.length_nil]
      rw [if_pos (by omega), u8_or192 _ (by omega) (by omega), i32_and63 r h0 (by omega), u8_or128 _ (by omega) (by omega), show r / 64 % 256 = r / 64 by omega, show r % 64 % 256 = r % 64 by omega]
    · split
      · simp only [Option.bind_some, List.length_cons, List.length_nil]
        rw [if_pos (by omega), u8_or224 _ (by omega) (by omega), i32_and63 r h0 (by omega), i32_and63 (r / 64) (by omega) (by omega), u8_or128 _ (by omega) (by omega), u8_or128 _ (by omega) (by omega), show r / 4096 % 256 = r / 4096 by omega, show r % 64 % 256 = r % 64 by omega, show r / 64 % 64 % 256 = r / 64 % 64 by omega]
      · simp only [Option.bind_some, List.length_cons, List.length_nil]
        rw [if_pos (by omega), u8_or240 _ (by omega) (by omega), i32_and63 r h0 (by omega), i32_and63 (r / 64) (by omega) (by omega), i32_and63 (r / 4096) (by omega) (by omega), u8_or128 _ (by omega) (by omega), u8_or128 _ (by omega) (by omega), u8_or128 _ (by omega) (by omega), show r / 262144 % 256 = r / 262144 by omega, show r / 4096 % 64 % 256 = r / 4096 % 64 by omega, show r % 64 % 256 = r % 64 by omega, show r / 64 % 64 % 256 = r / 64 % 64 by omega]
theorem enc_loop (l : List Int) (hl : l.length * 4 ≤ 140737488351232) : ∀ (d i k : Nat) (acc : List Int), l.length - i = d → i ≤ l.length → 2 * d < k → acc.length ≤ 4 * i →
    X.utf_Encode.l0 k acc l (l.length : Int) i = some (acc ++ enc (l.drop i)) := by
  intro d
  induction d with
  | zero =>
    intro i k acc hd hi hk ha
    obtain ⟨k, rfl⟩ : ∃ q, k = q + 1 := ⟨k - 1, by omega⟩
    simp only [X.utf_Encode.l0]
    rw [if_neg (by omega), List.drop_eq_nil_of_le (by omega)]
    simp [enc]
  | succ d ih =>
    intro i k acc hd hi hk ha
    obtain ⟨k, rfl⟩ : ∃ q, k = q + 2 := ⟨k - 2, by omega⟩
    have hlt : i < l.length := by omega
    simp only [X.utf_Encode.l0]
    rw [if_pos (by omega), if_pos (by omega), if_pos (by omega), Ux.rd_at l i hlt, valid_pure]
    simp only [Option.bind_some]
    have hw : wrap64 ((i : Int) + 1) = ((i + 1 : Nat) : Int) := by unfold wrap64; omega
    have hf := fixr_ok l[i]
    have e : (if vld l[i] = true then X.utf_Encode.j1 (k + 1) acc l[i] l (l.length : Int) i else X.utf_Encode.j1 (k + 1) acc 65533 l (l.length : Int) i) = X.utf_Encode.j1 (k + 1) acc (fixr l[i]) l (l.length : Int) i := by
      unfold fixr
      split <;> rfl
    rw [e, j1_pure k acc _ l _ _ hf.1 hf.2.1 (by omega), hw]
    have hn := encv_len (fixr l[i])
    rw [ih (i + 1) k _ (by omega) (by omega) (by omega) (by rw [List.length_append]; omega), List.drop_eq_getElem_cons hlt]
    simp [enc, enc1]
theorem enc_pure (l : List Int) (hl : l.length * 4 ≤ 140737488351232) : X.utf_Encode.f (2 * l.length + 1) l = some (enc l) := by
  have := enc_loop l hl l.length 0 (2 * l.length + 1) [] (by omega) (by omega) (by omega) (by simp)
  simpa [X.utf_Encode.f] using this
theorem w32 (x : Int) (h0 : -2147483648 ≤ x) (h1 : x < 2147483648) : wrap32 x = x := by unfold wrap32; omega
theorem put_pure (k : Nat) (acc : List Int) (r : Int) (ha : acc.length + 4 < 140737488355328) : X.tremaref01_Put.f (k + 1) acc r = some (acc ++ enc1 r) := by
  have key : ∀ r : Int, 0 ≤ r → r ≤ 1114111 → X.tremaref01_Put.j0 (k + 1) acc r = some (acc ++ encv r) := by
    intro r h0 h1
    simp only [X.tremaref01_Put.j0, encv]
    have t1 : Int.tdiv r 64 = r / 64 := Int.tdiv_eq_ediv_of_nonneg h0
    have t2 : Int.tdiv r 4096 = r / 4096 := Int.tdiv_eq_ediv_of_nonneg h0
    have t3 : Int.tdiv r 262144 = r / 262144 := Int.tdiv_eq_ediv_of_nonneg h0
    have m1 : Int.tmod r 64 = r % 64 := Int.tmod_eq_emod_of_nonneg h0
    have m2 : Int.tmod (r / 64) 64 = r / 64 % 64 := Int.tmod_eq_emod_of_nonneg (by omega)
    have m3 : Int.tmod (r / 4096) 64 = r / 4096 % 64 := Int.tmod_eq_emod_of_nonneg (by omega)
    split
    · rw [if_pos (by omega), show r % 256 = r by omega]
    · split
      · simp only [Option.bind_some, List.length_cons, List.length_nil]
        rw [if_pos (by omega), t1, w32 (r / 64) (by omega) (by omega), m1, w32 _ (by omega) (by omega), w32 _ (by omega) (by omega), show (192 + r / 64) % 256 = 192 + r / 64 by omega, show (128 + r % 64) % 256 = 128 + r % 64 by omega]
      · split
        · simp only [Option.bind_some, List.length_cons, List.length_nil]
          rw [if_pos (by omega), t1, t2, w32 (r / 64) (by omega) (by omega), w32 (r / 4096) (by omega) (by omega), m1, m2, w32 (224 + _) (by omega) (by omega), w32 (128 + r / 64 % 64) (by omega) (by omega), w32 (128 + r % 64) (by omega) (by omega), show (224 + r / 4096) % 256 = 224 + r / 4096 by omega, show (128 + r % 64) % 256 = 128 + r % 64 by omega, show (128 + r / 64 % 64) % 256 = 128 + r / 64 % 64 by omega]
        · simp only [Option.bind_some, List.length_cons, List.length_nil]
          rw [if_pos (by omega), t1, t2, t3, w32 (r / 64) (by omega) (by omega), w32 (r / 4096) (by omega) (by omega), w32 (r / 262144) (by omega) (by omega), m1, m2, m3, w32 (240 + _) (by omega) (by omega), w32 (128 + r / 64 % 64) (by omega) (by omega), w32 (128 + r / 4096 % 64) (by omega) (by omega), w32 (128 + r % 64) (by omega) (by omega), show (240 + r / 262144) % 256 = 240 + r / 262144 by omega, show (128 + r % 64) % 256 = 128 + r % 64 by omega, show (128 + r / 64 % 64) % 256 = 128 + r / 64 % 64 by omega, show (128 + r / 4096 % 64) % 256 = 128 + r / 4096 % 64 by omega]
  unfold X.tremaref01_Put.f
  rw [ref_valid]
  simp only [Option.bind_some, enc1]
  have hf := fixr_ok r
  rw [← key _ hf.1 hf.2.1]
  unfold fixr
  split <;> rfl
theorem ref_loop (l : List Int) (hl : l.length * 4 ≤ 140737488351232) : ∀ (d i k : Nat) (acc : List Int), l.length - i = d → i ≤ l.length → d + 1 < k → acc.length ≤ 4 * i →
    X.tremaref01_Encode.l0 k l acc i = some (acc ++ enc (l.drop i)) := by
  intro d
  induction d with
  | zero =>
    intro i k acc hd hi hk ha
    obtain ⟨k, rfl⟩ : ∃ q, k = q + 1 := ⟨k - 1, by omega⟩
    simp only [X.tremaref01_Encode.l0]
    rw [if_neg (by omega), List.drop_eq_nil_of_le (by omega)]
    simp [enc]
  | succ d ih =>
    intro i k acc hd hi hk ha
    obtain ⟨k, rfl⟩ : ∃ q, k = q + 2 := ⟨k - 2, by omega⟩
    have hlt : i < l.length := by omega
    rw [X.tremaref01_Encode.l0]
    rw [if_pos (by omega), if_pos (by omega), Ux.rd_at l i hlt, put_pure k acc _ (by omega)]
    have hw : wrap64 ((i : Int) + 1) = ((i + 1 : Nat) : Int) := by unfold wrap64; omega
    have hn : 1 ≤ (enc1 l[i]).length ∧ (enc1 l[i]).length ≤ 4 := encv_len (fixr l[i])
    have h := ih (i + 1) (k + 1) (acc ++ enc1 l[i]) (by omega) (by omega) (by omega) (by rw [List.length_append]; omega)
    rw [hw, Option.bind_some, h, List.drop_eq_getElem_cons hlt]
    simp [enc]
theorem ref_pure (l : List Int) (hl : l.length * 4 ≤ 140737488351232) : X.tremaref01_Encode.f (l.length + 2) l = some (enc l) := by
  have := ref_loop l hl l.length 0 (l.length + 2) [] (by omega) (by omega) (by omega) (by simp)
  simpa [X.tremaref01_Encode.f] using this
theorem enc_byte (l : List Int) : Ux.Bytes (enc l) := by
  induction l with
  | nil => simp [enc, Ux.Bytes]
  | cons r l ih =>
    intro x hx
    simp only [enc] at hx
    rcases List.mem_append.1 hx with hx | hx
    · have hf := fixr_ok r
      unfold enc1 encv at hx
      split at hx
      · simp at hx; omega
      · split at hx
        · simp at hx; omega
        · split at hx <;> simp at hx <;> omega
    · exact ih x hx
end Go.Proofs.YtiggjbclbdikmaaDoor.En
namespace Go.Proofs.YtiggjbclbdikmaaDoor.Sx
set_option linter.unusedVariables false
set_option linter.unusedSimpArgs false
open Go.RowKit Go.Proofs.YtiggjbclbdikmaaDoorW.PrintWords Go.Proofs.YtiggjbclbdikmaaDoor.Hp
theorem reads_string {P : Program} {w : World} {src dst e : TypeId} {A : Option Addr} {n c : Nat} {xs : List Int} (hs : P.underlying src = some (.slice e)) (he : P.underlying e = some (.int .u8)) (hd : P.underlying dst = some .string) (h : ReadsInt w .u8 A n xs) :
    (convert src dst (.slice A n c)).run P w = .ok (.string (strOfNums xs)) w := by
  have hl := h.1
  cases A with
  | none =>
    have h0 : n = 0 := by
      rcases Nat.eq_zero_or_pos n with h0 | h0
      · exact h0
      · obtain ⟨ad, e1, _⟩ := h.2.2 h0; cases e1
    obtain rfl : xs = [] := List.eq_nil_of_length_eq_zero (by omega)
    exact run_convert_bytes_nil w src e hs he n c dst hd
  | some a =>
    have hload : (loadCells a n).run P w = .ok (xs.map (Value.int .u8)).toArray w := by
      have := run_loadCells_list (P := P) w a (xs.map (Value.int .u8)) (fun j v hj => by
        have hjl : j < xs.length := by
          rcases Nat.lt_or_ge j xs.length with h | h
          · exact h
          · simp [List.getElem?_eq_none (show (xs.map (Value.int .u8)).length ≤ j by simpa using h)] at hj
        obtain ⟨ad, e1, hc⟩ := h.2.2 (by omega)
        cases e1
        rw [hc j (by omega)]
        simp [List.getElem?_eq_getElem hjl] at hj
        subst hj
        simp [List.getD, List.getElem?_eq_getElem hjl])
      simpa [hl] using this
    rw [run_convert_bytes_string w src dst e _ n c hs he hd, run_bytesToString w _ n c xs hload, foldl_push_bytes]
    simp [strOfNums, ByteArray.empty, ByteArray.emptyWithCapacity]
    rfl
end Go.Proofs.YtiggjbclbdikmaaDoor.Sx
