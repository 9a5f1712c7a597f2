/-
  Several texts of this claim in one: what its law's proof uses.
-/
import Derived.Test.YthffpkdadffinaaDoorMWC2
import Derived.Test.YthffpkdadffinaaDoorMWC10
import Derived.Test.YthffpkdadffinaaDoorMWC5
import Derived.Test.YthffpkdadffinaaDoorMWC6
import Derived.Test.YthffpkdadffinaaDoorMWC9
import Derived.Test.YthffpkdadffinaaDoorMWC8
import Derived.Test.YthffpkdadffinaaDoorMWC4
namespace Go.Proofs.YthffpkdadffinaaDoor.X
open Go.RowKit Go.Proofs.YthffpkdadffinaaDoorW.PrintWords Go.Proofs.YthffpkdadffinaaDoorW.PrintLast Go.Proofs.YthffpkdadffinaaDoorW.PrintMore
attribute [local go_sem] max2_int min2_int max_two min_two max_three min_three max_four min_four   
set_option linter.unusedVariables false
set_option linter.unusedSimpArgs false
def words_Key.l0 : Nat → List Int → List Int → Int → Int → Option (ByteArray)
 | 0, _, _, _, _ => none
 | k + 1, x3, x9, x10, x11 => if x11 < x10 then (if 0 ≤ x11 then (if x11 < (x9.length : Int) then ((ucd_Fold.f k (rd x9 x11)).bind fun t381 => (if x3.length + t381.length < 35184372088832 then (words_Key.l0 k (x3 ++ t381) x9 x10 (wrap64 (x11 + 1))) else (none))) else (none)) else (none)) else ((norm_Normal.f k x3).bind fun t387 => ((utf_Encode.f k t387).bind fun t390 => (some (strOfNums t390))))
def words_Key.f (k : Nat) (l0 : List Int) : Option (ByteArray) := (norm_Runes.f (strOfNums l0)).bind fun t374 => ((norm_Normal.f k t374).bind fun t377 => (words_Key.l0 k ([] : List Int) t377 (t377.length : Int) 0))
theorem words_Key.mono_l : ∀ k, (∀ y0 y1 y2 y3, LeO (words_Key.l0 k y0 y1 y2 y3) (words_Key.l0 (k + 1) y0 y1 y2 y3))
 | 0 => fun _ _ _ _ r h => by simp [words_Key.l0] at h
 | k + 1 => by
  have ih0 := words_Key.mono_l k
  ·intro y0 y1 y2 y3
   unfold words_Key.l0
   repeat' first
   | (with_reducible exact ih0 _ _ _ _)
   | (with_reducible exact norm_Normal.mono _ _)
   | (with_reducible exact ucd_Fold.mono _ _)
   | (with_reducible exact utf_Encode.mono _ _)
   | (with_reducible exact LeO.refl _)
   | (with_reducible exact LeO.none _)
   | (with_reducible refine LeO.ite ?_ ?_)
   | (with_reducible refine LeO.bind ?_ (fun _ => ?_))
   | exact ih0 _ _ _ _
   | exact norm_Normal.mono _ _
   | exact ucd_Fold.mono _ _
   | exact utf_Encode.mono _ _
   | exact LeO.none _
   | refine LeO.ite ?_ ?_
   | refine LeO.bind ?_ (fun _ => ?_)
theorem words_Key.mono : ∀ a0 k, LeO (words_Key.f k a0) (words_Key.f (k + 1) a0) := by
 intro a0 k
 have ih0 := words_Key.mono_l k
 unfold words_Key.f
 repeat' first
   | (with_reducible exact ih0 _ _ _ _)
   | (with_reducible exact norm_Normal.mono _ _)
   | (with_reducible exact ucd_Fold.mono _ _)
   | (with_reducible exact utf_Encode.mono _ _)
   | (with_reducible exact LeO.refl _)
   | (with_reducible exact LeO.none _)
   | (with_reducible refine LeO.ite ?_ ?_)
   | (with_reducible refine LeO.bind ?_ (fun _ => ?_))
   | exact ih0 _ _ _ _
   | exact norm_Normal.mono _ _
   | exact ucd_Fold.mono _ _
   | exact utf_Encode.mono _ _
   | exact LeO.none _
   | refine LeO.ite ?_ ?_
   | refine LeO.bind ?_ (fun _ => ?_)
set_option maxHeartbeats 8000000 in
set_option maxRecDepth 100000 in
theorem words_Key.calls (k : Nat) (A0 : Option Addr) (c0 : Nat) (l0 : List Int) (r : ByteArray) (w : World) (hr0 : Kd.C (Kd.int .u8) w A0 l0.length l0) (hc0 : l0.length ≤ c0) (h : words_Key.f k l0 = some r) (hG0 : Va.G w) :
  Calls Tryd.prog 32 #[.slice A0 l0.length c0] w fun e w' => e = .returned (.string r) ∧ Below w.heap.size w w' := by
 have HG := Aside0.mk hG0
 clear hG0
 have HR0 := Aside0.mk hr0
 have HC0 := Aside0.mk hc0
 clear hr0 hc0
 have HB := Aside0.mk (Below.refl w.heap.size w)
 have H : ((norm_Runes.f (strOfNums l0)).bind fun t374 => ((norm_Normal.f k t374).bind fun t377 => (words_Key.l0 k ([] : List Int) t377 (t377.length : Int) 0))) = some r := h
 clear h
 replace H := Option.bind_eq_some_iff.mp H
 obtain ⟨t374, A20, H⟩ := H
 replace H : ((norm_Normal.f k t374).bind fun t377 => (words_Key.l0 k ([] : List Int) t377 (t377.length : Int) 0)) = some r := H
 have A2 := Aside0.mk A20
 clear A20
 replace H := Option.bind_eq_some_iff.mp H
 obtain ⟨t377, A30, H⟩ := H
 replace H : (words_Key.l0 k ([] : List Int) t377 (t377.length : Int) 0) = some r := H
 have A3 := Aside0.mk A30
 clear A30
 have H' := Aside0.mk H
 clear H
 have hcv4 := Kd.C_string (P := Tryd.prog) (A := A0) (c := c0) Tryd.underlying23 Tryd.underlying5 Tryd.underlying9 HR0.out
 go_enter Tryd.func32, Tryd.ntmps32
 go_wp2_with (first | ((with_reducible refine gate_callee (f := 72) rfl ?_); refine goesL_ (some 8) rfl rfl Tryd.func72 (by kernel_rfl) rfl #[.string (strOfNums l0)] rfl (by (try simp only [List.map_toArray, List.map_cons, List.map_nil]); first | done | rfl | (simp only [List.length_drop, List.length_take]; rfl)) ?_; (with_reducible refine (norm_Runes.calls (strOfNums l0) t374 _ A2.out).mono ?_); rintro e w5 ⟨v375, rfl, ho0, hb⟩; refine ⟨_, rfl, ?_⟩; have n0_ := Aside0.mk (Kd.R_lower ho0 (below_size (by repeat (first | (with_reducible first | exact HB.out | apply below_alloc | apply pw_below_drewN | apply below_drew1) | exact HB.out)))); have n1_ := Aside0.mk (below_step (by repeat (first | (with_reducible first | exact HB.out | apply below_alloc | apply pw_below_drewN | apply below_drew1) | exact HB.out)) hb); clear HB; have HO376 := n0_; have HB := n1_; clear n0_ n1_; (try clear hb); (try clear hb2); (try clear hk); (try clear hi); (try clear ho0); obtain ⟨Ao6, co6, eo6⟩ := Kd.R_slice HO376.out; subst eo6) | ((with_reducible refine gate_callee (f := 71) rfl ?_); refine goesL_ (some 9) rfl rfl Tryd.func71 (by kernel_rfl) rfl #[.slice Ao6 t374.length co6] rfl (by (try simp only [List.map_toArray, List.map_cons, List.map_nil]); first | done | rfl | (simp only [List.length_drop, List.length_take]; rfl)) ?_; (with_reducible refine (norm_Normal.calls k _ _ t374 t377 _ ?side1 ?side2 A3.out (by first | exact HG.out | exact Va.G.below HG.out (by repeat (first | (with_reducible first | exact HB.out | apply below_alloc | apply pw_below_drewN | apply below_drew1) | exact HB.out)))).mono ?_); (case side1 => repeat (first | exact (Kd.R_reads' HO376.out).2.2 | (with_reducible refine Kd.C_alloc ?_ _) | (with_reducible refine Kd.C_drewN ?_ _) | (with_reducible refine Kd.C_drew ?_))); (case side2 => exact (Kd.R_reads' HO376.out).2.1); rintro e w7 ⟨v378, rfl, ho0, hb⟩; refine ⟨_, rfl, ?_⟩; have n0_ := Aside0.mk (Kd.R_elder' (by (with_reducible repeat (first | apply Kd.R_alloc | apply Kd.R_drewN | apply Kd.R_drew)); exact HO376.out) (Kd.R_base ho0) hb); have n1_ := Aside0.mk (Kd.R_lower (Kd.R_new' ho0 (Kd.R_lt (by (with_reducible repeat (first | apply Kd.R_alloc | apply Kd.R_drewN | apply Kd.R_drew)); exact HO376.out))) (below_size (by repeat (first | (with_reducible first | exact HB.out | apply below_alloc | apply pw_below_drewN | apply below_drew1) | exact HB.out)))); have n2_ := Aside0.mk (below_step (by repeat (first | (with_reducible first | exact HB.out | apply below_alloc | apply pw_below_drewN | apply below_drew1) | exact HB.out)) hb); clear HO376; clear HB; have HO376 := n0_; have HO379 := n1_; have HB := n2_; clear n0_ n1_ n2_; (try clear hb); (try clear hb2); (try clear hk); (try clear hi); (try clear ho0); obtain ⟨Ao8, co8, eo8⟩ := Kd.R_slice HO379.out; subst eo8))
 go_loopg [3, 11] k (fun kq v3 v11 w' => ∃ (x3_1 : List Int) (x11_1 : Int), v11 = .int .i64 x11_1 ∧ Aside0 (words_Key.l0 kq x3_1 t377 (t377.length : Int) x11_1 = some r) ∧ Aside0 (kq ≤ k) ∧ Aside0 (Kd.R (Kd.int .i32) 21 w' w.heap.size (fun k_ => some k_ ≠ ((.slice Ao8 t377.length co8) : Value).ownBlock) v3 x3_1) ∧ Aside0 (Kd.R (Kd.int .i32) 21 w' w.heap.size (fun k_ => some k_ ≠ (v3 : Value).ownBlock) (.slice Ao8 t377.length co8) t377) ∧ Aside0 (Below w.heap.size w w'))
 case atStart => exact ⟨(([] : List Int)), (0), (by first | rfl | (simp; done) | (simp [*]; done)), H', ⟨Nat.le_refl _⟩, ⟨by first | exact Kd.R_nil _ _ _ _ _ | exact Kd.N_nil _ _ _ _ _ | exact Kd.V_nil _ _ _ _ _ | exact Kd.Q_nil _ _ _ _ _ | exact Kd.S_nil _ _ _ _ _⟩, ⟨by (with_reducible repeat (first | apply Kd.R_alloc | apply Kd.R_drewN | apply Kd.R_drew)); exact Kd.R_mono HO379.out (fun _ hk => (by simp [Value.ownBlock]))⟩, ⟨by repeat (first | (with_reducible first | exact HB.out | apply below_alloc | apply pw_below_drewN | apply below_drew1) | exact HB.out)⟩⟩
 case round =>
  clear H'
  try clear p2
  try clear c3
  try clear hcv4
  try clear c7
  obtain ⟨x3_1, x11_1, rfl, HA, HK1, HO_3, HO_9, HB⟩ := hrel
  cases gk with
  | zero => exact absurd HA.out (by simp [words_Key.l0])
  | succ k1 =>
   have H := HA.out
   clear HA
   simp only [words_Key.l0] at H
   by_cases c9 : x11_1 < (t377.length : Int)
   ·rw [if_pos c9] at H
    have c9b0 : decide (x11_1 < (t377.length : Int)) = true := decide_eq_true c9
    clear c9
    by_cases c10 : 0 ≤ x11_1
    ·rw [if_pos c10] at H
     have c10b0 : decide (0 ≤ x11_1) = true := decide_eq_true c10
     clear c10
     by_cases c11 : x11_1 < (t377.length : Int)
     ·rw [if_pos c11] at H
      have c11b0 : decide (x11_1 < (t377.length : Int)) = true := decide_eq_true c11
      clear c11
      replace H := Option.bind_eq_some_iff.mp H
      obtain ⟨t381, A120, H⟩ := H
      replace H : (if x3_1.length + t381.length < 35184372088832 then (words_Key.l0 k1 (x3_1 ++ t381) t377 (t377.length : Int) (wrap64 (x11_1 + 1))) else (none)) = some r := H
      have A12 := Aside0.mk A120
      clear A120
      by_cases c13 : x3_1.length + t381.length < 35184372088832
      ·rw [if_pos c13] at H
       have LMc13 := Aside0.mk c13
       clear c13
       obtain ⟨y384, hy384⟩ : ∃ y_ : List Int, y_ = (x3_1 ++ t381) := ⟨_, rfl⟩
       replace H : (words_Key.l0 k1 y384 t377 (t377.length : Int) (wrap64 (x11_1 + 1))) = some r := by first | (rw [hy384]; with_reducible exact H) | (have H2_ := (Option.bind_some _ _).symm.trans H; rw [hy384]; with_reducible exact H2_) | (have H2_ := (Option.bind_some _ _).symm.trans H; with_reducible exact H2_) | with_reducible exact H | (rw [hy384]; exact H) | exact H
       have Ny384 := Aside0.mk hy384
       clear hy384
       have H' := Aside0.mk H
       clear H
       have p380 : 0 ≤ (x11_1 : Int) := of_decide_eq_true (by first | (with_reducible assumption) | assumption)
       have q380 : x11_1 < (t377.length : Int) := of_decide_eq_true (by first | (with_reducible assumption) | assumption)
       obtain ⟨ad380, e380, hx380_0⟩ := Kd.at_int (Kd.R_reads' HO_9.out).2.2 x11_1 p380 q380
       cases e380
       replace p380 := eq_true p380
       replace q380 := eq_true q380
       go_wp2_with (first | ((with_reducible refine gate_callee (f := 58) rfl ?_); refine goesL_ (some 17) rfl rfl Tryd.func58 (by kernel_rfl) rfl #[.int .i32 (rd t377 x11_1)] rfl (by (try simp only [List.map_toArray, List.map_cons, List.map_nil]); first | done | rfl | (simp only [List.length_drop, List.length_take]; rfl)) ?_; (with_reducible refine (ucd_Fold.calls k1 (rd t377 x11_1) t381 _ A12.out).mono ?_); rintro e w14 ⟨v382, rfl, ho0, hb⟩; refine ⟨_, rfl, ?_⟩; have n0_ := Aside0.mk (Kd.R_elder' (by (with_reducible repeat (first | apply Kd.R_alloc | apply Kd.R_drewN | apply Kd.R_drew)); exact HO_3.out) (Kd.R_base ho0) hb); have n1_ := Aside0.mk (Kd.R_elder' (by (with_reducible repeat (first | apply Kd.R_alloc | apply Kd.R_drewN | apply Kd.R_drew)); exact HO_9.out) (Kd.R_base ho0) hb); have n2_ := Aside0.mk (Kd.R_lower (Kd.R_new' (Kd.R_new' ho0 (Kd.R_lt (by (with_reducible repeat (first | apply Kd.R_alloc | apply Kd.R_drewN | apply Kd.R_drew)); exact HO_3.out))) (Kd.R_lt (by (with_reducible repeat (first | apply Kd.R_alloc | apply Kd.R_drewN | apply Kd.R_drew)); exact HO_9.out))) (below_size (by repeat (first | (with_reducible first | exact HB.out | apply below_alloc | apply pw_below_drewN | apply below_drew1) | exact HB.out)))); have n3_ := Aside0.mk (below_step (by repeat (first | (with_reducible first | exact HB.out | apply below_alloc | apply pw_below_drewN | apply below_drew1) | exact HB.out)) hb); clear HO_3; clear HO_9; clear HB; have HO_3 := n0_; have HO_9 := n1_; have HO383 := n2_; have HB := n3_; clear n0_ n1_ n2_ n3_; (try clear hb); (try clear hb2); (try clear hk); (try clear hi); (try clear ho0); obtain ⟨Ao16, co16, eo16⟩ := Kd.R_slice HO383.out; subst eo16) | ((with_reducible refine gate_builtin (b := .append) (xs := #[.tmp 15, .tmp 17]) rfl ?_); at_builtin; refine Kd.R_append_rows (Kd.int .i32) (w0 := w) w.heap.size rfl (.tmp 15) (.tmp 17) 42 21 (.int .i32 0) 4 rfl Tryd.underlying42 info21 rfl (by decide) (by omega) u3 x3_1 t381 _ _ _ (fun k_ => some k_ ≠ (.slice (some ad380) t377.length co8 : Value).ownBlock ∧ some k_ ≠ (.slice Ao16 t381.length co16 : Value).ownBlock) (fun _ => False) rfl rfl ?aO ?aR (fun _ _ h => h) (fun _ h => h.elim) ?aF ?aB ?aS ?aL ?_; (case aR => repeat (first | exact (Kd.R_reads' HO383.out).2.2 | (with_reducible refine Kd.C_alloc ?_ _) | (with_reducible refine Kd.C_drewN ?_ _) | (with_reducible refine Kd.C_drew ?_))); (case aB => exact (by repeat (first | (with_reducible first | exact HB.out | apply below_alloc | apply pw_below_drewN | apply below_drew1) | exact HB.out))); (case aF => exact (fun k_ hk => ⟨Kd.fresh' (Kd.R_lt (by (with_reducible repeat (first | apply Kd.R_alloc | apply Kd.R_drewN | apply Kd.R_drew)); exact HO_9.out)) k_ hk, Kd.fresh' (Kd.R_lt (by (with_reducible repeat (first | apply Kd.R_alloc | apply Kd.R_drewN | apply Kd.R_drew)); exact HO383.out)) k_ hk⟩)); (case aO => exact (by (with_reducible repeat (first | apply Kd.R_alloc | apply Kd.R_drewN | apply Kd.R_drew)); exact HO_3.out)); (case aS => exact (below_size (by repeat (first | (with_reducible first | exact HB.out | apply below_alloc | apply pw_below_drewN | apply below_drew1) | exact HB.out)))); (case aL => have := LMc13.out; omega); intro v385 w15 ho hb hg hat; rw [← Ny384.out] at ho; have n0_ := Aside0.mk (Kd.R_after (ok := (fun k_ => some k_ ≠ (.slice Ao16 t381.length co16 : Value).ownBlock)) (by (with_reducible repeat (first | apply Kd.R_alloc | apply Kd.R_drewN | apply Kd.R_drew)); exact Kd.R_mono HO_9.out (fun _ hk => ⟨hk.2, hk.1⟩)) hg hat); have n1_ := Aside0.mk (Kd.R_after (ok := (fun k_ => some k_ ≠ (.slice (some ad380) t377.length co8 : Value).ownBlock)) (by (with_reducible repeat (first | apply Kd.R_alloc | apply Kd.R_drewN | apply Kd.R_drew)); exact Kd.R_mono HO383.out (fun _ hk => ⟨hk.2, hk.1.2⟩)) hg hat); have n2_ := Aside0.mk (hb); have n3_ := Aside0.mk (ho); clear HO_9; clear HO383; clear HB; clear HO_3; have HO_9 := n0_; have HO383 := n1_; have HB := n2_; have HO386 := n3_; clear n0_ n1_ n2_ n3_; clear ho hb hg hat))
       go_roundg k1
       case measure => have := HK1.out; omega
       case rel => exact ⟨(y384), (wrap64 (x11_1 + 1)), (by first | rfl | (simp; done) | (simp [*]; done)), H', ⟨by have := HK1.out; omega⟩, ⟨by (with_reducible repeat (first | apply Kd.R_alloc | apply Kd.R_drewN | apply Kd.R_drew)); exact Kd.R_mono HO386.out (fun _ hk => hk.1)⟩, ⟨by (with_reducible repeat (first | apply Kd.R_alloc | apply Kd.R_drewN | apply Kd.R_drew)); exact Kd.R_mono HO_9.out (fun _ hk => hk.2)⟩, ⟨by repeat (first | (with_reducible first | exact HB.out | apply below_alloc | apply pw_below_drewN | apply below_drew1) | exact HB.out)⟩⟩
      ·rw [if_neg c13] at H
       exact absurd H (by simp)
     ·rw [if_neg c11] at H
      exact absurd H (by simp)
    ·rw [if_neg c10] at H
     exact absurd H (by simp)
   ·rw [if_neg c9] at H
    have c9b0 : decide (x11_1 < (t377.length : Int)) = false := decide_eq_false c9
    clear c9
    replace H := Option.bind_eq_some_iff.mp H
    obtain ⟨t387, A170, H⟩ := H
    replace H : ((utf_Encode.f k1 t387).bind fun t390 => (some (strOfNums t390))) = some r := H
    have A17 := Aside0.mk A170
    clear A170
    replace H := Option.bind_eq_some_iff.mp H
    obtain ⟨t390, A180, H⟩ := H
    replace H : (some (strOfNums t390)) = some r := H
    have A18 := Aside0.mk A180
    clear A180
    obtain rfl := Option.some.inj H
    obtain ⟨Ao19, co19, eo19⟩ := Kd.R_slice HO_3.out
    subst eo19
    go_wp2_with (first | ((with_reducible refine gate_callee (f := 71) rfl ?_); refine goesL_ (some 21) rfl rfl Tryd.func71 (by kernel_rfl) rfl #[.slice Ao19 x3_1.length co19] rfl (by (try simp only [List.map_toArray, List.map_cons, List.map_nil]); first | done | rfl | (simp only [List.length_drop, List.length_take]; rfl)) ?_; (with_reducible refine (norm_Normal.calls k1 _ _ x3_1 t387 _ ?side1 ?side2 A17.out (by first | exact HG.out | exact Va.G.below HG.out (by repeat (first | (with_reducible first | exact HB.out | apply below_alloc | apply pw_below_drewN | apply below_drew1) | exact HB.out)))).mono ?_); (case side1 => repeat (first | exact (Kd.R_reads' HO_3.out).2.2 | (with_reducible refine Kd.C_alloc ?_ _) | (with_reducible refine Kd.C_drewN ?_ _) | (with_reducible refine Kd.C_drew ?_))); (case side2 => exact (Kd.R_reads' HO_3.out).2.1); rintro e w20 ⟨v388, rfl, ho0, hb⟩; refine ⟨_, rfl, ?_⟩; have n0_ := Aside0.mk (Kd.R_elder' (by (with_reducible repeat (first | apply Kd.R_alloc | apply Kd.R_drewN | apply Kd.R_drew)); exact HO_3.out) (Kd.R_base ho0) hb); have n1_ := Aside0.mk (Kd.R_elder' (by (with_reducible repeat (first | apply Kd.R_alloc | apply Kd.R_drewN | apply Kd.R_drew)); exact HO_9.out) (Kd.R_base ho0) hb); have n2_ := Aside0.mk (Kd.R_lower (Kd.R_new' (Kd.R_new' ho0 (Kd.R_lt (by (with_reducible repeat (first | apply Kd.R_alloc | apply Kd.R_drewN | apply Kd.R_drew)); exact HO_3.out))) (Kd.R_lt (by (with_reducible repeat (first | apply Kd.R_alloc | apply Kd.R_drewN | apply Kd.R_drew)); exact HO_9.out))) (below_size (by repeat (first | (with_reducible first | exact HB.out | apply below_alloc | apply pw_below_drewN | apply below_drew1) | exact HB.out)))); have n3_ := Aside0.mk (below_step (by repeat (first | (with_reducible first | exact HB.out | apply below_alloc | apply pw_below_drewN | apply below_drew1) | exact HB.out)) hb); clear HO_3; clear HO_9; clear HB; have HO_3 := n0_; have HO_9 := n1_; have HO389 := n2_; have HB := n3_; clear n0_ n1_ n2_ n3_; (try clear hb); (try clear hb2); (try clear hk); (try clear hi); (try clear ho0); obtain ⟨Ao21, co21, eo21⟩ := Kd.R_slice HO389.out; subst eo21) | ((with_reducible refine gate_callee (f := 73) rfl ?_); refine goesL_ (some 22) rfl rfl Tryd.func73 (by kernel_rfl) rfl #[.slice Ao21 t387.length co21] rfl (by (try simp only [List.map_toArray, List.map_cons, List.map_nil]); first | done | rfl | (simp only [List.length_drop, List.length_take]; rfl)) ?_; (with_reducible refine (utf_Encode.calls k1 _ _ t387 t390 _ ?side1 ?side2 A18.out).mono ?_); (case side1 => repeat (first | exact (Kd.R_reads' HO389.out).2.2 | (with_reducible refine Kd.C_alloc ?_ _) | (with_reducible refine Kd.C_drewN ?_ _) | (with_reducible refine Kd.C_drew ?_))); (case side2 => exact (Kd.R_reads' HO389.out).2.1); rintro e w22 ⟨v391, rfl, ho0, hb⟩; refine ⟨_, rfl, ?_⟩; have n0_ := Aside0.mk (Kd.R_below (by (with_reducible repeat (first | apply Kd.R_alloc | apply Kd.R_drewN | apply Kd.R_drew)); exact HO_3.out) hb); have n1_ := Aside0.mk (Kd.R_below (by (with_reducible repeat (first | apply Kd.R_alloc | apply Kd.R_drewN | apply Kd.R_drew)); exact HO_9.out) hb); have n2_ := Aside0.mk (Kd.R_below (by (with_reducible repeat (first | apply Kd.R_alloc | apply Kd.R_drewN | apply Kd.R_drew)); exact HO389.out) hb); have n3_ := Aside0.mk (Kd.R_lower ho0 (below_size (by repeat (first | (with_reducible first | exact HB.out | apply below_alloc | apply pw_below_drewN | apply below_drew1) | exact HB.out)))); have n4_ := Aside0.mk (below_step (by repeat (first | (with_reducible first | exact HB.out | apply below_alloc | apply pw_below_drewN | apply below_drew1) | exact HB.out)) hb); clear HO_3; clear HO_9; clear HO389; clear HB; have HO_3 := n0_; have HO_9 := n1_; have HO389 := n2_; have HO392 := n3_; have HB := n4_; clear n0_ n1_ n2_ n3_ n4_; (try clear hb); (try clear hb2); (try clear hk); (try clear hi); (try clear ho0); have hcv23 := own_string (P := Tryd.prog) Tryd.underlying23 Tryd.underlying5 Tryd.underlying9 (Kd.own_of_R HO392.out)))
    go_ret
    exact ⟨by first | rfl | (simp [errW_none, errW_some] <;> rfl) | (simp [*, errW_none, errW_some] <;> rfl), by repeat (first | (with_reducible first | exact HB.out | apply below_alloc | apply pw_below_drewN | apply below_drew1) | exact HB.out)⟩
end Go.Proofs.YthffpkdadffinaaDoor.X
namespace Go.Proofs.YthffpkdadffinaaDoor.X
open Go.RowKit Go.Proofs.YthffpkdadffinaaDoorW.PrintWords Go.Proofs.YthffpkdadffinaaDoorW.PrintLast Go.Proofs.YthffpkdadffinaaDoorW.PrintMore
attribute [local go_sem] max2_int min2_int max_two min_two max_three min_three max_four min_four   
set_option linter.unusedVariables false
set_option linter.unusedSimpArgs false
def words_kind.f (a0 : ByteArray) : Option (Int) := (norm_Runes.f a0).bind fun t393 => (if (t393.length : Int) = 0 then (some 0) else (if 0 < (t393.length : Int) then ((ucd_Category.f (rd t393 0)).bind fun t397 => (if (rd t393 0) = 95 then (some 3) else (if t397 = 1 then (some 1) else (if t397 = 3 then (some 2) else (some 0))))) else (none)))
set_option maxHeartbeats 8000000 in
set_option maxRecDepth 100000 in
theorem words_kind.calls (a0 : ByteArray) (r : Int) (w : World) (h : words_kind.f a0 = some r) :
  Calls Tryd.prog 90 #[.string a0] w fun e w' => e = .returned (.int .i64 r) ∧ Below w.heap.size w w' := by
 have HB := Aside0.mk (Below.refl w.heap.size w)
 have H : ((norm_Runes.f a0).bind fun t393 => (if (t393.length : Int) = 0 then (some 0) else (if 0 < (t393.length : Int) then ((ucd_Category.f (rd t393 0)).bind fun t397 => (if (rd t393 0) = 95 then (some 3) else (if t397 = 1 then (some 1) else (if t397 = 3 then (some 2) else (some 0))))) else (none)))) = some r := h
 clear h
 replace H := Option.bind_eq_some_iff.mp H
 obtain ⟨t393, A20, H⟩ := H
 replace H : (if (t393.length : Int) = 0 then (some 0) else (if 0 < (t393.length : Int) then ((ucd_Category.f (rd t393 0)).bind fun t397 => (if (rd t393 0) = 95 then (some 3) else (if t397 = 1 then (some 1) else (if t397 = 3 then (some 2) else (some 0))))) else (none))) = some r := H
 have A2 := Aside0.mk A20
 clear A20
 by_cases c3 : (t393.length : Int) = 0
 ·rw [if_pos c3] at H
  have c3b0 : ((t393.length : Int) == 0) = true := beq_iff_eq.mpr c3
  have c3b1 : ((t393.length : Int) != 0) = false := bne_eq_false_iff_eq.mpr c3
  clear c3
  obtain rfl := Option.some.inj H
  go_enter Tryd.func90, Tryd.ntmps90
  go_wp2_with (first | ((with_reducible refine gate_callee (f := 72) rfl ?_); refine goesL_ (some 6) rfl rfl Tryd.func72 (by kernel_rfl) rfl #[.string a0] rfl (by (try simp only [List.map_toArray, List.map_cons, List.map_nil]); first | done | rfl | (simp only [List.length_drop, List.length_take]; rfl)) ?_; (with_reducible refine (norm_Runes.calls a0 t393 _ A2.out).mono ?_); rintro e w4 ⟨v394, rfl, ho0, hb⟩; refine ⟨_, rfl, ?_⟩; have n0_ := Aside0.mk (Kd.R_lower ho0 (below_size (by repeat (first | (with_reducible first | exact HB.out | apply below_alloc | apply pw_below_drewN | apply below_drew1) | exact HB.out)))); have n1_ := Aside0.mk (below_step (by repeat (first | (with_reducible first | exact HB.out | apply below_alloc | apply pw_below_drewN | apply below_drew1) | exact HB.out)) hb); clear HB; have HO395 := n0_; have HB := n1_; clear n0_ n1_; (try clear hb); (try clear hb2); (try clear hk); (try clear hi); (try clear ho0); obtain ⟨Ao5, co5, eo5⟩ := Kd.R_slice HO395.out; subst eo5))
  go_ret
  exact ⟨by first | rfl | (simp [errW_none, errW_some] <;> rfl) | (simp [*, errW_none, errW_some] <;> rfl), by repeat (first | (with_reducible first | exact HB.out | apply below_alloc | apply pw_below_drewN | apply below_drew1) | exact HB.out)⟩
 ·rw [if_neg c3] at H
  have c3b0 : ((t393.length : Int) == 0) = false := beq_eq_false_iff_ne.mpr c3
  have c3b1 : ((t393.length : Int) != 0) = true := bne_iff_ne.mpr c3
  have c3b2 : ¬ (t393 = []) := fun h_ => c3 (by rw [h_]; rfl)
  by_cases c6 : 0 < (t393.length : Int)
  ·rw [if_pos c6] at H
   have c6b0 : decide (0 < (t393.length : Int)) = true := decide_eq_true c6
   have c6b1 : decide (0 < t393.length) = true := decide_eq_true (by omega)
   clear c6
   replace H := Option.bind_eq_some_iff.mp H
   obtain ⟨t397, A70, H⟩ := H
   replace H : (if (rd t393 0) = 95 then (some 3) else (if t397 = 1 then (some 1) else (if t397 = 3 then (some 2) else (some 0)))) = some r := H
   have A7 := Aside0.mk A70
   clear A70
   by_cases c8 : (rd t393 0) = 95
   ·rw [if_pos c8] at H
    have c8b0 : ((rd t393 0) == 95) = true := beq_iff_eq.mpr c8
    have c8b1 : ((rd t393 0) != 95) = false := bne_eq_false_iff_eq.mpr c8
    clear c8
    obtain rfl := Option.some.inj H
    go_enter Tryd.func90, Tryd.ntmps90
    go_wp2_with (first | ((with_reducible refine gate_callee (f := 72) rfl ?_); refine goesL_ (some 6) rfl rfl Tryd.func72 (by kernel_rfl) rfl #[.string a0] rfl (by (try simp only [List.map_toArray, List.map_cons, List.map_nil]); first | done | rfl | (simp only [List.length_drop, List.length_take]; rfl)) ?_; (with_reducible refine (norm_Runes.calls a0 t393 _ A2.out).mono ?_); rintro e w9 ⟨v394, rfl, ho0, hb⟩; refine ⟨_, rfl, ?_⟩; have n0_ := Aside0.mk (Kd.R_lower ho0 (below_size (by repeat (first | (with_reducible first | exact HB.out | apply below_alloc | apply pw_below_drewN | apply below_drew1) | exact HB.out)))); have n1_ := Aside0.mk (below_step (by repeat (first | (with_reducible first | exact HB.out | apply below_alloc | apply pw_below_drewN | apply below_drew1) | exact HB.out)) hb); clear HB; have HO395 := n0_; have HB := n1_; clear n0_ n1_; (try clear hb); (try clear hb2); (try clear hk); (try clear hi); (try clear ho0); obtain ⟨Ao10, co10, eo10⟩ := Kd.R_slice HO395.out; subst eo10; have p396 : 0 ≤ (0 : Int) := (by omega); have q396 : 0 < (t393.length : Int) := of_decide_eq_true (by first | (with_reducible assumption) | assumption); obtain ⟨ad396, e396, hx396_0⟩ := Kd.at_int (Kd.R_reads' HO395.out).2.2 0 p396 q396; cases e396; have qi396 : (0 < t393.length) = True := eq_true (by omega); (try rw [show ((0 : Int)).toNat = 0 from rfl] at hx396_0); (try rw [Addr.add_zero'] at hx396_0); replace p396 := eq_true p396; replace q396 := eq_true q396) | ((with_reducible refine gate_callee (f := 25) rfl ?_); refine goesL_ (some 13) rfl rfl Tryd.func25 (by kernel_rfl) rfl #[.int .i32 (rd t393 0)] rfl (by (try simp only [List.map_toArray, List.map_cons, List.map_nil]); first | done | rfl | (simp only [List.length_drop, List.length_take]; rfl)) ?_; (with_reducible refine (ucd_Category.calls (rd t393 0) t397 _ A7.out).mono ?_); rintro e w11 ⟨rfl, hb⟩; refine ⟨_, rfl, ?_⟩; have n0_ := Aside0.mk (Kd.R_below (by (with_reducible repeat (first | apply Kd.R_alloc | apply Kd.R_drewN | apply Kd.R_drew)); exact HO395.out) hb); have n1_ := Aside0.mk (below_step (by repeat (first | (with_reducible first | exact HB.out | apply below_alloc | apply pw_below_drewN | apply below_drew1) | exact HB.out)) hb); clear HO395; clear HB; have HO395 := n0_; have HB := n1_; clear n0_ n1_; (try clear hb); (try clear hb2); (try clear hk); (try clear hi); have p398 : 0 ≤ (0 : Int) := (by omega); have q398 : 0 < (t393.length : Int) := of_decide_eq_true (by first | (with_reducible assumption) | assumption); obtain ⟨ad398, e398, hx398_0⟩ := Kd.at_int (Kd.R_reads' HO395.out).2.2 0 p398 q398; obtain rfl : ad396 = ad398 := (by injection e398); have qi398 : (0 < t393.length) = True := eq_true (by omega); (try rw [show ((0 : Int)).toNat = 0 from rfl] at hx398_0); (try rw [Addr.add_zero'] at hx398_0); replace p398 := eq_true p398; replace q398 := eq_true q398))
    go_ret
    exact ⟨by first | rfl | (simp [errW_none, errW_some] <;> rfl) | (simp [*, errW_none, errW_some] <;> rfl), by repeat (first | (with_reducible first | exact HB.out | apply below_alloc | apply pw_below_drewN | apply below_drew1) | exact HB.out)⟩
   ·rw [if_neg c8] at H
    have c8b0 : ((rd t393 0) == 95) = false := beq_eq_false_iff_ne.mpr c8
    have c8b1 : ((rd t393 0) != 95) = true := bne_iff_ne.mpr c8
    by_cases c12 : t397 = 1
    ·rw [if_pos c12] at H
     have c12b0 : (t397 == 1) = true := beq_iff_eq.mpr c12
     have c12b1 : (t397 != 1) = false := bne_eq_false_iff_eq.mpr c12
     clear c12
     obtain rfl := Option.some.inj H
     go_enter Tryd.func90, Tryd.ntmps90
     go_wp2_with (first | ((with_reducible refine gate_callee (f := 72) rfl ?_); refine goesL_ (some 6) rfl rfl Tryd.func72 (by kernel_rfl) rfl #[.string a0] rfl (by (try simp only [List.map_toArray, List.map_cons, List.map_nil]); first | done | rfl | (simp only [List.length_drop, List.length_take]; rfl)) ?_; (with_reducible refine (norm_Runes.calls a0 t393 _ A2.out).mono ?_); rintro e w13 ⟨v394, rfl, ho0, hb⟩; refine ⟨_, rfl, ?_⟩; have n0_ := Aside0.mk (Kd.R_lower ho0 (below_size (by repeat (first | (with_reducible first | exact HB.out | apply below_alloc | apply pw_below_drewN | apply below_drew1) | exact HB.out)))); have n1_ := Aside0.mk (below_step (by repeat (first | (with_reducible first | exact HB.out | apply below_alloc | apply pw_below_drewN | apply below_drew1) | exact HB.out)) hb); clear HB; have HO395 := n0_; have HB := n1_; clear n0_ n1_; (try clear hb); (try clear hb2); (try clear hk); (try clear hi); (try clear ho0); obtain ⟨Ao14, co14, eo14⟩ := Kd.R_slice HO395.out; subst eo14; have p396 : 0 ≤ (0 : Int) := (by omega); have q396 : 0 < (t393.length : Int) := of_decide_eq_true (by first | (with_reducible assumption) | assumption); obtain ⟨ad396, e396, hx396_0⟩ := Kd.at_int (Kd.R_reads' HO395.out).2.2 0 p396 q396; cases e396; have qi396 : (0 < t393.length) = True := eq_true (by omega); (try rw [show ((0 : Int)).toNat = 0 from rfl] at hx396_0); (try rw [Addr.add_zero'] at hx396_0); replace p396 := eq_true p396; replace q396 := eq_true q396) | ((with_reducible refine gate_callee (f := 25) rfl ?_); refine goesL_ (some 13) rfl rfl Tryd.func25 (by kernel_rfl) rfl #[.int .i32 (rd t393 0)] rfl (by (try simp only [List.map_toArray, List.map_cons, List.map_nil]); first | done | rfl | (simp only [List.length_drop, List.length_take]; rfl)) ?_; (with_reducible refine (ucd_Category.calls (rd t393 0) t397 _ A7.out).mono ?_); rintro e w15 ⟨rfl, hb⟩; refine ⟨_, rfl, ?_⟩; have n0_ := Aside0.mk (Kd.R_below (by (with_reducible repeat (first | apply Kd.R_alloc | apply Kd.R_drewN | apply Kd.R_drew)); exact HO395.out) hb); have n1_ := Aside0.mk (below_step (by repeat (first | (with_reducible first | exact HB.out | apply below_alloc | apply pw_below_drewN | apply below_drew1) | exact HB.out)) hb); clear HO395; clear HB; have HO395 := n0_; have HB := n1_; clear n0_ n1_; (try clear hb); (try clear hb2); (try clear hk); (try clear hi); have p398 : 0 ≤ (0 : Int) := (by omega); have q398 : 0 < (t393.length : Int) := of_decide_eq_true (by first | (with_reducible assumption) | assumption); obtain ⟨ad398, e398, hx398_0⟩ := Kd.at_int (Kd.R_reads' HO395.out).2.2 0 p398 q398; obtain rfl : ad396 = ad398 := (by injection e398); have qi398 : (0 < t393.length) = True := eq_true (by omega); (try rw [show ((0 : Int)).toNat = 0 from rfl] at hx398_0); (try rw [Addr.add_zero'] at hx398_0); replace p398 := eq_true p398; replace q398 := eq_true q398))
     go_ret
     exact ⟨by first | rfl | (simp [errW_none, errW_some] <;> rfl) | (simp [*, errW_none, errW_some] <;> rfl), by repeat (first | (with_reducible first | exact HB.out | apply below_alloc | apply pw_below_drewN | apply below_drew1) | exact HB.out)⟩
    ·rw [if_neg c12] at H
     have c12b0 : (t397 == 1) = false := beq_eq_false_iff_ne.mpr c12
     have c12b1 : (t397 != 1) = true := bne_iff_ne.mpr c12
     by_cases c16 : t397 = 3
     ·rw [if_pos c16] at H
      have c16b0 : (t397 == 3) = true := beq_iff_eq.mpr c16
      have c16b1 : (t397 != 3) = false := bne_eq_false_iff_eq.mpr c16
      clear c16
      obtain rfl := Option.some.inj H
      go_enter Tryd.func90, Tryd.ntmps90
      go_wp2_with (first | ((with_reducible refine gate_callee (f := 72) rfl ?_); refine goesL_ (some 6) rfl rfl Tryd.func72 (by kernel_rfl) rfl #[.string a0] rfl (by (try simp only [List.map_toArray, List.map_cons, List.map_nil]); first | done | rfl | (simp only [List.length_drop, List.length_take]; rfl)) ?_; (with_reducible refine (norm_Runes.calls a0 t393 _ A2.out).mono ?_); rintro e w17 ⟨v394, rfl, ho0, hb⟩; refine ⟨_, rfl, ?_⟩; have n0_ := Aside0.mk (Kd.R_lower ho0 (below_size (by repeat (first | (with_reducible first | exact HB.out | apply below_alloc | apply pw_below_drewN | apply below_drew1) | exact HB.out)))); have n1_ := Aside0.mk (below_step (by repeat (first | (with_reducible first | exact HB.out | apply below_alloc | apply pw_below_drewN | apply below_drew1) | exact HB.out)) hb); clear HB; have HO395 := n0_; have HB := n1_; clear n0_ n1_; (try clear hb); (try clear hb2); (try clear hk); (try clear hi); (try clear ho0); obtain ⟨Ao18, co18, eo18⟩ := Kd.R_slice HO395.out; subst eo18; have p396 : 0 ≤ (0 : Int) := (by omega); have q396 : 0 < (t393.length : Int) := of_decide_eq_true (by first | (with_reducible assumption) | assumption); obtain ⟨ad396, e396, hx396_0⟩ := Kd.at_int (Kd.R_reads' HO395.out).2.2 0 p396 q396; cases e396; have qi396 : (0 < t393.length) = True := eq_true (by omega); (try rw [show ((0 : Int)).toNat = 0 from rfl] at hx396_0); (try rw [Addr.add_zero'] at hx396_0); replace p396 := eq_true p396; replace q396 := eq_true q396) | ((with_reducible refine gate_callee (f := 25) rfl ?_); refine goesL_ (some 13) rfl rfl Tryd.func25 (by kernel_rfl) rfl #[.int .i32 (rd t393 0)] rfl (by (try simp only [List.map_toArray, List.map_cons, List.map_nil]); first | done | rfl | (simp only [List.length_drop, List.length_take]; rfl)) ?_; (with_reducible refine (ucd_Category.calls (rd t393 0) t397 _ A7.out).mono ?_); rintro e w19 ⟨rfl, hb⟩; refine ⟨_, rfl, ?_⟩; have n0_ := Aside0.mk (Kd.R_below (by (with_reducible repeat (first | apply Kd.R_alloc | apply Kd.R_drewN | apply Kd.R_drew)); exact HO395.out) hb); have n1_ := Aside0.mk (below_step (by repeat (first | (with_reducible first | exact HB.out | apply below_alloc | apply pw_below_drewN | apply below_drew1) | exact HB.out)) hb); clear HO395; clear HB; have HO395 := n0_; have HB := n1_; clear n0_ n1_; (try clear hb); (try clear hb2); (try clear hk); (try clear hi); have p398 : 0 ≤ (0 : Int) := (by omega); have q398 : 0 < (t393.length : Int) := of_decide_eq_true (by first | (with_reducible assumption) | assumption); obtain ⟨ad398, e398, hx398_0⟩ := Kd.at_int (Kd.R_reads' HO395.out).2.2 0 p398 q398; obtain rfl : ad396 = ad398 := (by injection e398); have qi398 : (0 < t393.length) = True := eq_true (by omega); (try rw [show ((0 : Int)).toNat = 0 from rfl] at hx398_0); (try rw [Addr.add_zero'] at hx398_0); replace p398 := eq_true p398; replace q398 := eq_true q398))
      go_ret
      exact ⟨by first | rfl | (simp [errW_none, errW_some] <;> rfl) | (simp [*, errW_none, errW_some] <;> rfl), by repeat (first | (with_reducible first | exact HB.out | apply below_alloc | apply pw_below_drewN | apply below_drew1) | exact HB.out)⟩
     ·rw [if_neg c16] at H
      have c16b0 : (t397 == 3) = false := beq_eq_false_iff_ne.mpr c16
      have c16b1 : (t397 != 3) = true := bne_iff_ne.mpr c16
      obtain rfl := Option.some.inj H
      go_enter Tryd.func90, Tryd.ntmps90
      go_wp2_with (first | ((with_reducible refine gate_callee (f := 72) rfl ?_); refine goesL_ (some 6) rfl rfl Tryd.func72 (by kernel_rfl) rfl #[.string a0] rfl (by (try simp only [List.map_toArray, List.map_cons, List.map_nil]); first | done | rfl | (simp only [List.length_drop, List.length_take]; rfl)) ?_; (with_reducible refine (norm_Runes.calls a0 t393 _ A2.out).mono ?_); rintro e w20 ⟨v394, rfl, ho0, hb⟩; refine ⟨_, rfl, ?_⟩; have n0_ := Aside0.mk (Kd.R_lower ho0 (below_size (by repeat (first | (with_reducible first | exact HB.out | apply below_alloc | apply pw_below_drewN | apply below_drew1) | exact HB.out)))); have n1_ := Aside0.mk (below_step (by repeat (first | (with_reducible first | exact HB.out | apply below_alloc | apply pw_below_drewN | apply below_drew1) | exact HB.out)) hb); clear HB; have HO395 := n0_; have HB := n1_; clear n0_ n1_; (try clear hb); (try clear hb2); (try clear hk); (try clear hi); (try clear ho0); obtain ⟨Ao21, co21, eo21⟩ := Kd.R_slice HO395.out; subst eo21; have p396 : 0 ≤ (0 : Int) := (by omega); have q396 : 0 < (t393.length : Int) := of_decide_eq_true (by first | (with_reducible assumption) | assumption); obtain ⟨ad396, e396, hx396_0⟩ := Kd.at_int (Kd.R_reads' HO395.out).2.2 0 p396 q396; cases e396; have qi396 : (0 < t393.length) = True := eq_true (by omega); (try rw [show ((0 : Int)).toNat = 0 from rfl] at hx396_0); (try rw [Addr.add_zero'] at hx396_0); replace p396 := eq_true p396; replace q396 := eq_true q396) | ((with_reducible refine gate_callee (f := 25) rfl ?_); refine goesL_ (some 13) rfl rfl Tryd.func25 (by kernel_rfl) rfl #[.int .i32 (rd t393 0)] rfl (by (try simp only [List.map_toArray, List.map_cons, List.map_nil]); first | done | rfl | (simp only [List.length_drop, List.length_take]; rfl)) ?_; (with_reducible refine (ucd_Category.calls (rd t393 0) t397 _ A7.out).mono ?_); rintro e w22 ⟨rfl, hb⟩; refine ⟨_, rfl, ?_⟩; have n0_ := Aside0.mk (Kd.R_below (by (with_reducible repeat (first | apply Kd.R_alloc | apply Kd.R_drewN | apply Kd.R_drew)); exact HO395.out) hb); have n1_ := Aside0.mk (below_step (by repeat (first | (with_reducible first | exact HB.out | apply below_alloc | apply pw_below_drewN | apply below_drew1) | exact HB.out)) hb); clear HO395; clear HB; have HO395 := n0_; have HB := n1_; clear n0_ n1_; (try clear hb); (try clear hb2); (try clear hk); (try clear hi); have p398 : 0 ≤ (0 : Int) := (by omega); have q398 : 0 < (t393.length : Int) := of_decide_eq_true (by first | (with_reducible assumption) | assumption); obtain ⟨ad398, e398, hx398_0⟩ := Kd.at_int (Kd.R_reads' HO395.out).2.2 0 p398 q398; obtain rfl : ad396 = ad398 := (by injection e398); have qi398 : (0 < t393.length) = True := eq_true (by omega); (try rw [show ((0 : Int)).toNat = 0 from rfl] at hx398_0); (try rw [Addr.add_zero'] at hx398_0); replace p398 := eq_true p398; replace q398 := eq_true q398))
      go_ret
      exact ⟨by first | rfl | (simp [errW_none, errW_some] <;> rfl) | (simp [*, errW_none, errW_some] <;> rfl), by repeat (first | (with_reducible first | exact HB.out | apply below_alloc | apply pw_below_drewN | apply below_drew1) | exact HB.out)⟩
  ·rw [if_neg c6] at H
   exact absurd H (by simp)
end Go.Proofs.YthffpkdadffinaaDoor.X
namespace Go.Proofs.YthffpkdadffinaaDoor.X
open Go.RowKit Go.Proofs.YthffpkdadffinaaDoorW.PrintWords Go.Proofs.YthffpkdadffinaaDoorW.PrintLast Go.Proofs.YthffpkdadffinaaDoorW.PrintMore
attribute [local go_sem] max2_int min2_int max_two min_two max_three min_three max_four min_four   
set_option linter.unusedVariables false
set_option linter.unusedSimpArgs false
def words_joint.j0 : Nat → ByteArray → Bool → Option (Int)
 | 0, _, _ => none
 | k + 1, x3, x4 => if x4 = true then (some 1) else (if x3.toList = ([46] : List UInt8) then (some 2) else (if x3.toList = ([44] : List UInt8) then (some 2) else (some 0)))
def words_joint.f (k : Nat) (a0 : ByteArray) : Option (Int) := if a0.toList = ([39] : List UInt8) then (words_joint.j0 k a0 (a0.toList == ([39] : List UInt8))) else (if a0.toList = ([226, 128, 153] : List UInt8) then (words_joint.j0 k a0 (a0.toList == ([226, 128, 153] : List UInt8))) else (words_joint.j0 k a0 (a0.toList == ([194, 183] : List UInt8))))
theorem words_joint.mono_l : ∀ k, (∀ y0 y1, LeO (words_joint.j0 k y0 y1) (words_joint.j0 (k + 1) y0 y1))
 | 0 => fun _ _ r h => by simp [words_joint.j0] at h
 | k + 1 => by
  have ih0 := words_joint.mono_l k
  ·intro y0 y1
   unfold words_joint.j0
   repeat' first
   | (with_reducible exact ih0 _ _)
   | (with_reducible exact LeO.refl _)
   | (with_reducible exact LeO.none _)
   | (with_reducible refine LeO.ite ?_ ?_)
   | (with_reducible refine LeO.bind ?_ (fun _ => ?_))
   | exact ih0 _ _
   | exact LeO.none _
   | refine LeO.ite ?_ ?_
   | refine LeO.bind ?_ (fun _ => ?_)
theorem words_joint.mono : ∀ a0 k, LeO (words_joint.f k a0) (words_joint.f (k + 1) a0) := by
 intro a0 k
 have ih0 := words_joint.mono_l k
 unfold words_joint.f
 repeat' first
   | (with_reducible exact ih0 _ _)
   | (with_reducible exact LeO.refl _)
   | (with_reducible exact LeO.none _)
   | (with_reducible refine LeO.ite ?_ ?_)
   | (with_reducible refine LeO.bind ?_ (fun _ => ?_))
   | exact ih0 _ _
   | exact LeO.none _
   | refine LeO.ite ?_ ?_
   | refine LeO.bind ?_ (fun _ => ?_)
set_option maxHeartbeats 8000000 in
set_option maxRecDepth 100000 in
theorem words_joint.calls (k : Nat) (a0 : ByteArray) (r : Int) (w : World) (h : words_joint.f k a0 = some r) :
  Calls Tryd.prog 91 #[.string a0] w fun e w' => e = .returned (.int .i64 r) ∧ Drawn0 w w' := by
 have H : (if a0.toList = ([39] : List UInt8) then (words_joint.j0 k a0 (a0.toList == ([39] : List UInt8))) else (if a0.toList = ([226, 128, 153] : List UInt8) then (words_joint.j0 k a0 (a0.toList == ([226, 128, 153] : List UInt8))) else (words_joint.j0 k a0 (a0.toList == ([194, 183] : List UInt8))))) = some r := h
 clear h
 have HC2 := Aside0.mk H
 clear H
 go_enter Tryd.func91, Tryd.ntmps91
 go_upto_if 4 with (fail)
 go_cut [4] (fun v4 wc => ∃ (kq : Nat) (x4_1 : Bool), v4 = .bool x4_1 ∧ Aside0 (words_joint.j0 kq a0 x4_1 = some r) ∧ Aside0 (kq ≤ k) ∧ Drawn0 w wc)
 case first =>
  have H := HC2.out
  clear HC2
  by_cases c3 : a0.toList = ([39] : List UInt8)
  ·rw [if_pos c3] at H
   have c3b0 : (a0.toList == ([39] : List UInt8)) = true := beq_iff_eq.mpr c3
   have c3b1 : (a0.toList != ([39] : List UInt8)) = false := bne_eq_false_iff_eq.mpr c3
   clear c3
   (first | rw [c3b0] | (simp only [i64_w, i32_w]; rw [c3b0]) | skip)
   have H' := Aside0.mk H
   clear H
   go_wp2
   go_meet
   case rel => exact ⟨_, ((a0.toList == ([39] : List UInt8))), (by first | rfl | (simp; done) | (simp [*]; done)), H', ⟨by first | omega | exact Nat.le_refl _⟩, by repeat (first | exact Drawn0.refl _ | apply Drawn0.step)⟩
  ·rw [if_neg c3] at H
   have c3b0 : (a0.toList == ([39] : List UInt8)) = false := beq_eq_false_iff_ne.mpr c3
   have c3b1 : (a0.toList != ([39] : List UInt8)) = true := bne_iff_ne.mpr c3
   (first | rw [c3b0] | (simp only [i64_w, i32_w]; rw [c3b0]) | skip)
   by_cases c4 : a0.toList = ([226, 128, 153] : List UInt8)
   ·rw [if_pos c4] at H
    have c4b0 : (a0.toList == ([226, 128, 153] : List UInt8)) = true := beq_iff_eq.mpr c4
    have c4b1 : (a0.toList != ([226, 128, 153] : List UInt8)) = false := bne_eq_false_iff_eq.mpr c4
    clear c4
    have H' := Aside0.mk H
    clear H
    go_wp2
    go_meet
    case rel => exact ⟨_, ((a0.toList == ([226, 128, 153] : List UInt8))), (by first | rfl | (simp; done) | (simp [*]; done)), H', ⟨by first | omega | exact Nat.le_refl _⟩, by repeat (first | exact Drawn0.refl _ | apply Drawn0.step)⟩
   ·rw [if_neg c4] at H
    have c4b0 : (a0.toList == ([226, 128, 153] : List UInt8)) = false := beq_eq_false_iff_ne.mpr c4
    have c4b1 : (a0.toList != ([226, 128, 153] : List UInt8)) = true := bne_iff_ne.mpr c4
    have H' := Aside0.mk H
    clear H
    go_wp2
    go_meet
    case rel => exact ⟨_, ((a0.toList == ([194, 183] : List UInt8))), (by first | rfl | (simp; done) | (simp [*]; done)), H', ⟨by first | omega | exact Nat.le_refl _⟩, by repeat (first | exact Drawn0.refl _ | apply Drawn0.step)⟩
 case rest =>
  clear HC2
  try clear p2
  try clear c3
  try clear c3b0
  try clear c3b1
  try clear c4
  try clear c4b0
  try clear c4b1
  obtain ⟨kq, x4_1, rfl, HA, HJ1, ⟨mc1, rfl⟩⟩ := hcut
  cases kq with
  | zero => exact absurd HA.out (by simp [words_joint.j0])
  | succ kj1 =>
   have H := HA.out
   clear HA
   simp only [words_joint.j0] at H
   by_cases c5 : x4_1 = true
   ·subst c5
    have H1 : (some 1) = some r := by rw [if_pos rfl] at H; exact H
    clear H
    have H := H1
    clear H1
    obtain rfl := Option.some.inj H
    go_wp2
    go_ret
    exact ⟨by first | rfl | (simp; done) | (simp [*]; done), by repeat (first | exact Drawn0.refl _ | apply Drawn0.step)⟩
   ·replace c5 := Bool.eq_false_iff.mpr c5
    subst c5
    have H1 : (if a0.toList = ([46] : List UInt8) then (some 2) else (if a0.toList = ([44] : List UInt8) then (some 2) else (some 0))) = some r := by rw [if_neg (show ¬ (false = true) by decide)] at H; exact H
    clear H
    have H := H1
    clear H1
    by_cases c6 : a0.toList = ([46] : List UInt8)
    ·rw [if_pos c6] at H
     have c6b0 : (a0.toList == ([46] : List UInt8)) = true := beq_iff_eq.mpr c6
     have c6b1 : (a0.toList != ([46] : List UInt8)) = false := bne_eq_false_iff_eq.mpr c6
     clear c6
     obtain rfl := Option.some.inj H
     go_wp2
     go_ret
     exact ⟨by first | rfl | (simp; done) | (simp [*]; done), by repeat (first | exact Drawn0.refl _ | apply Drawn0.step)⟩
    ·rw [if_neg c6] at H
     have c6b0 : (a0.toList == ([46] : List UInt8)) = false := beq_eq_false_iff_ne.mpr c6
     have c6b1 : (a0.toList != ([46] : List UInt8)) = true := bne_iff_ne.mpr c6
     by_cases c7 : a0.toList = ([44] : List UInt8)
     ·rw [if_pos c7] at H
      have c7b0 : (a0.toList == ([44] : List UInt8)) = true := beq_iff_eq.mpr c7
      have c7b1 : (a0.toList != ([44] : List UInt8)) = false := bne_eq_false_iff_eq.mpr c7
      clear c7
      obtain rfl := Option.some.inj H
      go_wp2
      go_ret
      exact ⟨by first | rfl | (simp; done) | (simp [*]; done), by repeat (first | exact Drawn0.refl _ | apply Drawn0.step)⟩
     ·rw [if_neg c7] at H
      have c7b0 : (a0.toList == ([44] : List UInt8)) = false := beq_eq_false_iff_ne.mpr c7
      have c7b1 : (a0.toList != ([44] : List UInt8)) = true := bne_iff_ne.mpr c7
      obtain rfl := Option.some.inj H
      go_wp2
      go_ret
      exact ⟨by first | rfl | (simp; done) | (simp [*]; done), by repeat (first | exact Drawn0.refl _ | apply Drawn0.step)⟩
end Go.Proofs.YthffpkdadffinaaDoor.X
namespace Go.Proofs.YthffpkdadffinaaDoor.X
open Go.RowKit Go.Proofs.YthffpkdadffinaaDoorW.PrintWords Go.Proofs.YthffpkdadffinaaDoorW.PrintLast Go.Proofs.YthffpkdadffinaaDoorW.PrintMore
attribute [local go_sem] max2_int min2_int max_two min_two max_three min_three max_four min_four   
set_option linter.unusedVariables false
set_option linter.unusedSimpArgs false
def words_within.f (k : Nat) (l0 : List (S67)) (a1 : Int) : Option (Bool) := if 0 ≤ a1 then (if a1 < (l0.length : Int) then ((words_kind.f ((rd_T67 l0 a1).f0)).bind fun t400 => (if t400 = 0 then ((words_joint.f k ((rd_T67 l0 a1).f0)).bind fun t402 => (if t402 = 0 then (some false) else (if a1 > 0 then (if (wrap64 (a1 + 1)) < (l0.length : Int) then (if 0 ≤ (wrap64 (a1 - 1)) then (if (wrap64 (a1 - 1)) < (l0.length : Int) then ((words_kind.f ((rd_T67 l0 (wrap64 (a1 - 1))).f0)).bind fun t404 => (if t404 = t402 then (if 0 ≤ (wrap64 (a1 + 1)) then ((words_kind.f ((rd_T67 l0 (wrap64 (a1 + 1))).f0)).bind fun t406 => (some (t406 == t402))) else (none)) else (some false))) else (none)) else (none)) else (some false)) else (some false)))) else (some true))) else (none)) else (none)
theorem words_within.mono : ∀ a0 a1 k, LeO (words_within.f k a0 a1) (words_within.f (k + 1) a0 a1) := by
 intro a0 a1 k
 unfold words_within.f
 repeat' first
   | (with_reducible exact words_joint.mono _ _)
   | (with_reducible exact LeO.refl _)
   | (with_reducible exact LeO.none _)
   | (with_reducible refine LeO.ite ?_ ?_)
   | (with_reducible refine LeO.bind ?_ (fun _ => ?_))
   | exact words_joint.mono _ _
   | exact LeO.none _
   | refine LeO.ite ?_ ?_
   | refine LeO.bind ?_ (fun _ => ?_)
set_option maxHeartbeats 8000000 in
set_option maxRecDepth 100000 in
theorem words_within.calls (k : Nat) (A0 : Option Addr) (c0 : Nat) (l0 : List (S67)) (a1 : Int) (r : Bool) (w : World) (hr0 : Kd.C k67 w A0 l0.length l0) (hc0 : l0.length ≤ c0) (h : words_within.f k l0 a1 = some r) :
  Calls Tryd.prog 69 #[.slice A0 l0.length c0, .int .i64 a1] w fun e w' => e = .returned (.bool r) ∧ Below w.heap.size w w' := by
 have HR0 := Aside0.mk hr0
 have HC0 := Aside0.mk hc0
 clear hr0 hc0
 have HB := Aside0.mk (Below.refl w.heap.size w)
 have H : (if 0 ≤ a1 then (if a1 < (l0.length : Int) then ((words_kind.f ((rd_T67 l0 a1).f0)).bind fun t400 => (if t400 = 0 then ((words_joint.f k ((rd_T67 l0 a1).f0)).bind fun t402 => (if t402 = 0 then (some false) else (if a1 > 0 then (if (wrap64 (a1 + 1)) < (l0.length : Int) then (if 0 ≤ (wrap64 (a1 - 1)) then (if (wrap64 (a1 - 1)) < (l0.length : Int) then ((words_kind.f ((rd_T67 l0 (wrap64 (a1 - 1))).f0)).bind fun t404 => (if t404 = t402 then (if 0 ≤ (wrap64 (a1 + 1)) then ((words_kind.f ((rd_T67 l0 (wrap64 (a1 + 1))).f0)).bind fun t406 => (some (t406 == t402))) else (none)) else (some false))) else (none)) else (none)) else (some false)) else (some false)))) else (some true))) else (none)) else (none)) = some r := h
 clear h
 by_cases c3 : 0 ≤ a1
 ·rw [if_pos c3] at H
  have c3b0 : decide (0 ≤ a1) = true := decide_eq_true c3
  clear c3
  by_cases c4 : a1 < (l0.length : Int)
  ·rw [if_pos c4] at H
   have c4b0 : decide (a1 < (l0.length : Int)) = true := decide_eq_true c4
   clear c4
   replace H := Option.bind_eq_some_iff.mp H
   obtain ⟨t400, A50, H⟩ := H
   replace H : (if t400 = 0 then ((words_joint.f k ((rd_T67 l0 a1).f0)).bind fun t402 => (if t402 = 0 then (some false) else (if a1 > 0 then (if (wrap64 (a1 + 1)) < (l0.length : Int) then (if 0 ≤ (wrap64 (a1 - 1)) then (if (wrap64 (a1 - 1)) < (l0.length : Int) then ((words_kind.f ((rd_T67 l0 (wrap64 (a1 - 1))).f0)).bind fun t404 => (if t404 = t402 then (if 0 ≤ (wrap64 (a1 + 1)) then ((words_kind.f ((rd_T67 l0 (wrap64 (a1 + 1))).f0)).bind fun t406 => (some (t406 == t402))) else (none)) else (some false))) else (none)) else (none)) else (some false)) else (some false)))) else (some true)) = some r := H
   have A5 := Aside0.mk A50
   clear A50
   by_cases c6 : t400 = 0
   ·rw [if_pos c6] at H
    have c6b0 : (t400 == 0) = true := beq_iff_eq.mpr c6
    have c6b1 : (t400 != 0) = false := bne_eq_false_iff_eq.mpr c6
    clear c6
    replace H := Option.bind_eq_some_iff.mp H
    obtain ⟨t402, A70, H⟩ := H
    replace H : (if t402 = 0 then (some false) else (if a1 > 0 then (if (wrap64 (a1 + 1)) < (l0.length : Int) then (if 0 ≤ (wrap64 (a1 - 1)) then (if (wrap64 (a1 - 1)) < (l0.length : Int) then ((words_kind.f ((rd_T67 l0 (wrap64 (a1 - 1))).f0)).bind fun t404 => (if t404 = t402 then (if 0 ≤ (wrap64 (a1 + 1)) then ((words_kind.f ((rd_T67 l0 (wrap64 (a1 + 1))).f0)).bind fun t406 => (some (t406 == t402))) else (none)) else (some false))) else (none)) else (none)) else (some false)) else (some false))) = some r := H
    have A7 := Aside0.mk A70
    clear A70
    by_cases c8 : t402 = 0
    ·rw [if_pos c8] at H
     have c8b0 : (t402 == 0) = true := beq_iff_eq.mpr c8
     have c8b1 : (t402 != 0) = false := bne_eq_false_iff_eq.mpr c8
     clear c8
     obtain rfl := Option.some.inj H
     have p399 : 0 ≤ (a1 : Int) := of_decide_eq_true (by first | (with_reducible assumption) | assumption)
     have q399 : a1 < (l0.length : Int) := of_decide_eq_true (by first | (with_reducible assumption) | assumption)
     obtain ⟨ad399, e399, hx399_0, hx399_1, hx399_2⟩ := at_T67 HR0.out a1 p399 q399
     cases e399
     replace p399 := eq_true p399
     replace q399 := eq_true q399
     go_enter Tryd.func69, Tryd.ntmps69
     go_wp2_with (first | ((with_reducible refine gate_callee (f := 90) rfl ?_); refine goesL_ (some 11) rfl rfl Tryd.func90 (by kernel_rfl) rfl #[.string ((rd_T67 l0 a1).f0)] rfl (by (try simp only [List.map_toArray, List.map_cons, List.map_nil]); first | done | rfl | (simp only [List.length_drop, List.length_take]; rfl)) ?_; (with_reducible refine (words_kind.calls ((rd_T67 l0 a1).f0) t400 _ A5.out).mono ?_); rintro e w9 ⟨rfl, hb⟩; refine ⟨_, rfl, ?_⟩; have n0_ := Aside0.mk (below_step (by repeat (first | (with_reducible first | exact HB.out | apply below_alloc | apply pw_below_drewN | apply below_drew1) | exact HB.out)) hb); clear HB; have HB := n0_; clear n0_; (try clear hb); (try clear hb2); (try clear hk); (try clear hi); have p401 : 0 ≤ (a1 : Int) := of_decide_eq_true (by first | (with_reducible assumption) | assumption); have q401 : a1 < (l0.length : Int) := of_decide_eq_true (by first | (with_reducible assumption) | assumption); obtain ⟨ad401, e401, hx401_0, hx401_1, hx401_2⟩ := at_T67 HR0.out a1 p401 q401; obtain rfl : ad399 = ad401 := (by injection e401); replace hx401_0 := (HB.out.cell (World.block_lt_of_cell? w _ hx401_0)).trans hx401_0; replace hx401_1 := (HB.out.cell (World.block_lt_of_cell? w _ hx401_1)).trans hx401_1; replace hx401_2 := (HB.out.cell (World.block_lt_of_cell? w _ hx401_2)).trans hx401_2; replace p401 := eq_true p401; replace q401 := eq_true q401) | ((with_reducible refine gate_callee (f := 91) rfl ?_); refine goesL_ (some 18) rfl rfl Tryd.func91 (by kernel_rfl) rfl #[.string ((rd_T67 l0 a1).f0)] rfl (by (try simp only [List.map_toArray, List.map_cons, List.map_nil]); first | done | rfl | (simp only [List.length_drop, List.length_take]; rfl)) ?_; (with_reducible refine (words_joint.calls k ((rd_T67 l0 a1).f0) t402 _ A7.out).mono ?_); rintro e w' ⟨rfl, ⟨nd, rfl⟩⟩; refine ⟨_, rfl, ?_⟩))
     go_ret
     exact ⟨by first | rfl | (simp [errW_none, errW_some] <;> rfl) | (simp [*, errW_none, errW_some] <;> rfl), by repeat (first | (with_reducible first | exact HB.out | apply below_alloc | apply pw_below_drewN | apply below_drew1) | exact HB.out)⟩
    ·rw [if_neg c8] at H
     have c8b0 : (t402 == 0) = false := beq_eq_false_iff_ne.mpr c8
     have c8b1 : (t402 != 0) = true := bne_iff_ne.mpr c8
     by_cases c10 : a1 > 0
     ·rw [if_pos c10] at H
      have c10b0 : decide (0 < a1) = true := decide_eq_true c10
      clear c10
      by_cases c11 : (wrap64 (a1 + 1)) < (l0.length : Int)
      ·rw [if_pos c11] at H
       have c11b0 : decide ((wrap64 (a1 + 1)) < (l0.length : Int)) = true := decide_eq_true c11
       clear c11
       obtain ⟨ji12, hji12⟩ : ∃ j_ : Int, (wrap64 (a1 - 1)) = j_ := ⟨_, rfl⟩
       replace H : (if 0 ≤ (ji12) then (if (ji12) < (l0.length : Int) then ((words_kind.f ((rd_T67 l0 (ji12)).f0)).bind fun t404 => (if t404 = t402 then (if 0 ≤ (wrap64 (a1 + 1)) then ((words_kind.f ((rd_T67 l0 (wrap64 (a1 + 1))).f0)).bind fun t406 => (some (t406 == t402))) else (none)) else (some false))) else (none)) else (none)) = some r := by first | (rw [hji12] at H; exact H) | (simp only [hji12] at H ⊢; exact H)
       (try rw [hji12] at A5)
       (try rw [hji12] at A7)
       have hji12w : (IntKind.i64.wrap (a1 - 1)) = ji12 := (i64_w _).trans hji12
       by_cases c13 : 0 ≤ (ji12)
       ·rw [if_pos c13] at H
        have c13b0 : decide (0 ≤ (ji12)) = true := decide_eq_true c13
        clear c13
        by_cases c14 : (ji12) < (l0.length : Int)
        ·rw [if_pos c14] at H
         have c14b0 : decide ((ji12) < (l0.length : Int)) = true := decide_eq_true c14
         clear c14
         replace H := Option.bind_eq_some_iff.mp H
         obtain ⟨t404, A150, H⟩ := H
         replace H : (if t404 = t402 then (if 0 ≤ (wrap64 (a1 + 1)) then ((words_kind.f ((rd_T67 l0 (wrap64 (a1 + 1))).f0)).bind fun t406 => (some (t406 == t402))) else (none)) else (some false)) = some r := H
         have A15 := Aside0.mk A150
         clear A150
         by_cases c16 : t404 = t402
         ·rw [if_pos c16] at H
          have c16b0 : (t404 == t402) = true := beq_iff_eq.mpr c16
          have c16b1 : (t404 != t402) = false := bne_eq_false_iff_eq.mpr c16
          clear c16
          obtain ⟨ji17, hji17⟩ : ∃ j_ : Int, (wrap64 (a1 + 1)) = j_ := ⟨_, rfl⟩
          replace H : (if 0 ≤ (ji17) then ((words_kind.f ((rd_T67 l0 (ji17)).f0)).bind fun t406 => (some (t406 == t402))) else (none)) = some r := by first | (rw [hji17] at H; exact H) | (simp only [hji17] at H ⊢; exact H)
          (try rw [hji17] at c11b0)
          (try rw [hji17] at A5)
          (try rw [hji17] at A7)
          (try rw [hji17] at A15)
          have hji17w : (IntKind.i64.wrap (a1 + 1)) = ji17 := (i64_w _).trans hji17
          by_cases c18 : 0 ≤ (ji17)
          ·rw [if_pos c18] at H
           have c18b0 : decide (0 ≤ (ji17)) = true := decide_eq_true c18
           clear c18
           replace H := Option.bind_eq_some_iff.mp H
           obtain ⟨t406, A190, H⟩ := H
           replace H : (some (t406 == t402)) = some r := H
           have A19 := Aside0.mk A190
           clear A190
           obtain rfl := Option.some.inj H
           have p399 : 0 ≤ (a1 : Int) := of_decide_eq_true (by first | (with_reducible assumption) | assumption)
           have q399 : a1 < (l0.length : Int) := of_decide_eq_true (by first | (with_reducible assumption) | assumption)
           obtain ⟨ad399, e399, hx399_0, hx399_1, hx399_2⟩ := at_T67 HR0.out a1 p399 q399
           cases e399
           replace p399 := eq_true p399
           replace q399 := eq_true q399
           go_enter Tryd.func69, Tryd.ntmps69
           go_wp2_with (first | ((with_reducible refine gate_callee (f := 90) rfl ?_); refine goesL_ (some 11) rfl rfl Tryd.func90 (by kernel_rfl) rfl #[.string ((rd_T67 l0 a1).f0)] rfl (by (try simp only [List.map_toArray, List.map_cons, List.map_nil]); first | done | rfl | (simp only [List.length_drop, List.length_take]; rfl)) ?_; (with_reducible refine (words_kind.calls ((rd_T67 l0 a1).f0) t400 _ A5.out).mono ?_); rintro e w20 ⟨rfl, hb⟩; refine ⟨_, rfl, ?_⟩; have n0_ := Aside0.mk (below_step (by repeat (first | (with_reducible first | exact HB.out | apply below_alloc | apply pw_below_drewN | apply below_drew1) | exact HB.out)) hb); clear HB; have HB := n0_; clear n0_; (try clear hb); (try clear hb2); (try clear hk); (try clear hi); have p401 : 0 ≤ (a1 : Int) := of_decide_eq_true (by first | (with_reducible assumption) | assumption); have q401 : a1 < (l0.length : Int) := of_decide_eq_true (by first | (with_reducible assumption) | assumption); obtain ⟨ad401, e401, hx401_0, hx401_1, hx401_2⟩ := at_T67 HR0.out a1 p401 q401; obtain rfl : ad399 = ad401 := (by injection e401); replace hx401_0 := (HB.out.cell (World.block_lt_of_cell? w _ hx401_0)).trans hx401_0; replace hx401_1 := (HB.out.cell (World.block_lt_of_cell? w _ hx401_1)).trans hx401_1; replace hx401_2 := (HB.out.cell (World.block_lt_of_cell? w _ hx401_2)).trans hx401_2; replace p401 := eq_true p401; replace q401 := eq_true q401) | ((with_reducible refine gate_callee (f := 91) rfl ?_); refine goesL_ (some 18) rfl rfl Tryd.func91 (by kernel_rfl) rfl #[.string ((rd_T67 l0 a1).f0)] rfl (by (try simp only [List.map_toArray, List.map_cons, List.map_nil]); first | done | rfl | (simp only [List.length_drop, List.length_take]; rfl)) ?_; (with_reducible refine (words_joint.calls k ((rd_T67 l0 a1).f0) t402 _ A7.out).mono ?_); rintro e w' ⟨rfl, ⟨nd, rfl⟩⟩; refine ⟨_, rfl, ?_⟩; have p403 : 0 ≤ ((ji12) : Int) := of_decide_eq_true (by first | (with_reducible assumption) | assumption); have q403 : (ji12) < (l0.length : Int) := of_decide_eq_true (by first | (with_reducible assumption) | assumption); obtain ⟨ad403, e403, hx403_0, hx403_1, hx403_2⟩ := at_T67 HR0.out (ji12) p403 q403; obtain rfl : ad399 = ad403 := (by injection e403); replace hx403_0 := (HB.out.cell (World.block_lt_of_cell? w _ hx403_0)).trans hx403_0; replace hx403_1 := (HB.out.cell (World.block_lt_of_cell? w _ hx403_1)).trans hx403_1; replace hx403_2 := (HB.out.cell (World.block_lt_of_cell? w _ hx403_2)).trans hx403_2; replace p403 := eq_true p403; replace q403 := eq_true q403) | (go_at_call 90; (with_reducible refine (words_kind.calls ((rd_T67 l0 (ji12)).f0) t404 _ A15.out).mono ?_); rintro e w21 ⟨rfl, hb⟩; have n0_ := Aside0.mk (below_step (by repeat (first | (with_reducible first | exact HB.out | apply below_alloc | apply pw_below_drewN | apply below_drew1) | exact HB.out)) hb); clear HB; have HB := n0_; clear n0_; (try clear hb); (try clear hb2); (try clear hk); (try clear hi); have p405 : 0 ≤ ((ji17) : Int) := of_decide_eq_true (by first | (with_reducible assumption) | assumption); have q405 : (ji17) < (l0.length : Int) := of_decide_eq_true (by first | (with_reducible assumption) | assumption); obtain ⟨ad405, e405, hx405_0, hx405_1, hx405_2⟩ := at_T67 HR0.out (ji17) p405 q405; obtain rfl : ad399 = ad405 := (by injection e405); replace hx405_0 := (HB.out.cell (World.block_lt_of_cell? w _ hx405_0)).trans hx405_0; replace hx405_1 := (HB.out.cell (World.block_lt_of_cell? w _ hx405_1)).trans hx405_1; replace hx405_2 := (HB.out.cell (World.block_lt_of_cell? w _ hx405_2)).trans hx405_2; replace p405 := eq_true p405; replace q405 := eq_true q405) | (go_at_call 90; (with_reducible refine (words_kind.calls ((rd_T67 l0 (ji17)).f0) t406 _ A19.out).mono ?_); rintro e w22 ⟨rfl, hb⟩; have n0_ := Aside0.mk (below_step (by repeat (first | (with_reducible first | exact HB.out | apply below_alloc | apply pw_below_drewN | apply below_drew1) | exact HB.out)) hb); clear HB; have HB := n0_; clear n0_; (try clear hb); (try clear hb2); (try clear hk); (try clear hi)))
           go_ret
           exact ⟨by first | rfl | (simp [errW_none, errW_some] <;> rfl) | (simp only [← hji12, ← hji17]; first | rfl | (simp [errW_none, errW_some] <;> rfl)) | (simp [*, errW_none, errW_some] <;> rfl), by repeat (first | (with_reducible first | exact HB.out | apply below_alloc | apply pw_below_drewN | apply below_drew1) | exact HB.out)⟩
          ·rw [if_neg c18] at H
           exact absurd H (by simp)
         ·rw [if_neg c16] at H
          have c16b0 : (t404 == t402) = false := beq_eq_false_iff_ne.mpr c16
          have c16b1 : (t404 != t402) = true := bne_iff_ne.mpr c16
          obtain rfl := Option.some.inj H
          have p399 : 0 ≤ (a1 : Int) := of_decide_eq_true (by first | (with_reducible assumption) | assumption)
          have q399 : a1 < (l0.length : Int) := of_decide_eq_true (by first | (with_reducible assumption) | assumption)
          obtain ⟨ad399, e399, hx399_0, hx399_1, hx399_2⟩ := at_T67 HR0.out a1 p399 q399
          cases e399
          replace p399 := eq_true p399
          replace q399 := eq_true q399
          go_enter Tryd.func69, Tryd.ntmps69
          go_wp2_with (first | ((with_reducible refine gate_callee (f := 90) rfl ?_); refine goesL_ (some 11) rfl rfl Tryd.func90 (by kernel_rfl) rfl #[.string ((rd_T67 l0 a1).f0)] rfl (by (try simp only [List.map_toArray, List.map_cons, List.map_nil]); first | done | rfl | (simp only [List.length_drop, List.length_take]; rfl)) ?_; (with_reducible refine (words_kind.calls ((rd_T67 l0 a1).f0) t400 _ A5.out).mono ?_); rintro e w23 ⟨rfl, hb⟩; refine ⟨_, rfl, ?_⟩; have n0_ := Aside0.mk (below_step (by repeat (first | (with_reducible first | exact HB.out | apply below_alloc | apply pw_below_drewN | apply below_drew1) | exact HB.out)) hb); clear HB; have HB := n0_; clear n0_; (try clear hb); (try clear hb2); (try clear hk); (try clear hi); have p401 : 0 ≤ (a1 : Int) := of_decide_eq_true (by first | (with_reducible assumption) | assumption); have q401 : a1 < (l0.length : Int) := of_decide_eq_true (by first | (with_reducible assumption) | assumption); obtain ⟨ad401, e401, hx401_0, hx401_1, hx401_2⟩ := at_T67 HR0.out a1 p401 q401; obtain rfl : ad399 = ad401 := (by injection e401); replace hx401_0 := (HB.out.cell (World.block_lt_of_cell? w _ hx401_0)).trans hx401_0; replace hx401_1 := (HB.out.cell (World.block_lt_of_cell? w _ hx401_1)).trans hx401_1; replace hx401_2 := (HB.out.cell (World.block_lt_of_cell? w _ hx401_2)).trans hx401_2; replace p401 := eq_true p401; replace q401 := eq_true q401) | ((with_reducible refine gate_callee (f := 91) rfl ?_); refine goesL_ (some 18) rfl rfl Tryd.func91 (by kernel_rfl) rfl #[.string ((rd_T67 l0 a1).f0)] rfl (by (try simp only [List.map_toArray, List.map_cons, List.map_nil]); first | done | rfl | (simp only [List.length_drop, List.length_take]; rfl)) ?_; (with_reducible refine (words_joint.calls k ((rd_T67 l0 a1).f0) t402 _ A7.out).mono ?_); rintro e w' ⟨rfl, ⟨nd, rfl⟩⟩; refine ⟨_, rfl, ?_⟩; have p403 : 0 ≤ ((ji12) : Int) := of_decide_eq_true (by first | (with_reducible assumption) | assumption); have q403 : (ji12) < (l0.length : Int) := of_decide_eq_true (by first | (with_reducible assumption) | assumption); obtain ⟨ad403, e403, hx403_0, hx403_1, hx403_2⟩ := at_T67 HR0.out (ji12) p403 q403; obtain rfl : ad399 = ad403 := (by injection e403); replace hx403_0 := (HB.out.cell (World.block_lt_of_cell? w _ hx403_0)).trans hx403_0; replace hx403_1 := (HB.out.cell (World.block_lt_of_cell? w _ hx403_1)).trans hx403_1; replace hx403_2 := (HB.out.cell (World.block_lt_of_cell? w _ hx403_2)).trans hx403_2; replace p403 := eq_true p403; replace q403 := eq_true q403) | (go_at_call 90; (with_reducible refine (words_kind.calls ((rd_T67 l0 (ji12)).f0) t404 _ A15.out).mono ?_); rintro e w24 ⟨rfl, hb⟩; have n0_ := Aside0.mk (below_step (by repeat (first | (with_reducible first | exact HB.out | apply below_alloc | apply pw_below_drewN | apply below_drew1) | exact HB.out)) hb); clear HB; have HB := n0_; clear n0_; (try clear hb); (try clear hb2); (try clear hk); (try clear hi)))
          go_ret
          exact ⟨by first | rfl | (simp [errW_none, errW_some] <;> rfl) | (simp only [← hji12]; first | rfl | (simp [errW_none, errW_some] <;> rfl)) | (simp [*, errW_none, errW_some] <;> rfl), by repeat (first | (with_reducible first | exact HB.out | apply below_alloc | apply pw_below_drewN | apply below_drew1) | exact HB.out)⟩
        ·rw [if_neg c14] at H
         exact absurd H (by simp)
       ·rw [if_neg c13] at H
        exact absurd H (by simp)
      ·rw [if_neg c11] at H
       have c11b0 : decide ((wrap64 (a1 + 1)) < (l0.length : Int)) = false := decide_eq_false c11
       clear c11
       obtain rfl := Option.some.inj H
       have p399 : 0 ≤ (a1 : Int) := of_decide_eq_true (by first | (with_reducible assumption) | assumption)
       have q399 : a1 < (l0.length : Int) := of_decide_eq_true (by first | (with_reducible assumption) | assumption)
       obtain ⟨ad399, e399, hx399_0, hx399_1, hx399_2⟩ := at_T67 HR0.out a1 p399 q399
       cases e399
       replace p399 := eq_true p399
       replace q399 := eq_true q399
       go_enter Tryd.func69, Tryd.ntmps69
       go_wp2_with (first | ((with_reducible refine gate_callee (f := 90) rfl ?_); refine goesL_ (some 11) rfl rfl Tryd.func90 (by kernel_rfl) rfl #[.string ((rd_T67 l0 a1).f0)] rfl (by (try simp only [List.map_toArray, List.map_cons, List.map_nil]); first | done | rfl | (simp only [List.length_drop, List.length_take]; rfl)) ?_; (with_reducible refine (words_kind.calls ((rd_T67 l0 a1).f0) t400 _ A5.out).mono ?_); rintro e w25 ⟨rfl, hb⟩; refine ⟨_, rfl, ?_⟩; have n0_ := Aside0.mk (below_step (by repeat (first | (with_reducible first | exact HB.out | apply below_alloc | apply pw_below_drewN | apply below_drew1) | exact HB.out)) hb); clear HB; have HB := n0_; clear n0_; (try clear hb); (try clear hb2); (try clear hk); (try clear hi); have p401 : 0 ≤ (a1 : Int) := of_decide_eq_true (by first | (with_reducible assumption) | assumption); have q401 : a1 < (l0.length : Int) := of_decide_eq_true (by first | (with_reducible assumption) | assumption); obtain ⟨ad401, e401, hx401_0, hx401_1, hx401_2⟩ := at_T67 HR0.out a1 p401 q401; obtain rfl : ad399 = ad401 := (by injection e401); replace hx401_0 := (HB.out.cell (World.block_lt_of_cell? w _ hx401_0)).trans hx401_0; replace hx401_1 := (HB.out.cell (World.block_lt_of_cell? w _ hx401_1)).trans hx401_1; replace hx401_2 := (HB.out.cell (World.block_lt_of_cell? w _ hx401_2)).trans hx401_2; replace p401 := eq_true p401; replace q401 := eq_true q401) | ((with_reducible refine gate_callee (f := 91) rfl ?_); refine goesL_ (some 18) rfl rfl Tryd.func91 (by kernel_rfl) rfl #[.string ((rd_T67 l0 a1).f0)] rfl (by (try simp only [List.map_toArray, List.map_cons, List.map_nil]); first | done | rfl | (simp only [List.length_drop, List.length_take]; rfl)) ?_; (with_reducible refine (words_joint.calls k ((rd_T67 l0 a1).f0) t402 _ A7.out).mono ?_); rintro e w' ⟨rfl, ⟨nd, rfl⟩⟩; refine ⟨_, rfl, ?_⟩))
       go_ret
       exact ⟨by first | rfl | (simp [errW_none, errW_some] <;> rfl) | (simp [*, errW_none, errW_some] <;> rfl), by repeat (first | (with_reducible first | exact HB.out | apply below_alloc | apply pw_below_drewN | apply below_drew1) | exact HB.out)⟩
     ·rw [if_neg c10] at H
      have c10b0 : decide (0 < a1) = false := decide_eq_false c10
      clear c10
      obtain rfl := Option.some.inj H
      have p399 : 0 ≤ (a1 : Int) := of_decide_eq_true (by first | (with_reducible assumption) | assumption)
      have q399 : a1 < (l0.length : Int) := of_decide_eq_true (by first | (with_reducible assumption) | assumption)
      obtain ⟨ad399, e399, hx399_0, hx399_1, hx399_2⟩ := at_T67 HR0.out a1 p399 q399
      cases e399
      replace p399 := eq_true p399
      replace q399 := eq_true q399
      go_enter Tryd.func69, Tryd.ntmps69
      go_wp2_with (first | ((with_reducible refine gate_callee (f := 90) rfl ?_); refine goesL_ (some 11) rfl rfl Tryd.func90 (by kernel_rfl) rfl #[.string ((rd_T67 l0 a1).f0)] rfl (by (try simp only [List.map_toArray, List.map_cons, List.map_nil]); first | done | rfl | (simp only [List.length_drop, List.length_take]; rfl)) ?_; (with_reducible refine (words_kind.calls ((rd_T67 l0 a1).f0) t400 _ A5.out).mono ?_); rintro e w26 ⟨rfl, hb⟩; refine ⟨_, rfl, ?_⟩; have n0_ := Aside0.mk (below_step (by repeat (first | (with_reducible first | exact HB.out | apply below_alloc | apply pw_below_drewN | apply below_drew1) | exact HB.out)) hb); clear HB; have HB := n0_; clear n0_; (try clear hb); (try clear hb2); (try clear hk); (try clear hi); have p401 : 0 ≤ (a1 : Int) := of_decide_eq_true (by first | (with_reducible assumption) | assumption); have q401 : a1 < (l0.length : Int) := of_decide_eq_true (by first | (with_reducible assumption) | assumption); obtain ⟨ad401, e401, hx401_0, hx401_1, hx401_2⟩ := at_T67 HR0.out a1 p401 q401; obtain rfl : ad399 = ad401 := (by injection e401); replace hx401_0 := (HB.out.cell (World.block_lt_of_cell? w _ hx401_0)).trans hx401_0; replace hx401_1 := (HB.out.cell (World.block_lt_of_cell? w _ hx401_1)).trans hx401_1; replace hx401_2 := (HB.out.cell (World.block_lt_of_cell? w _ hx401_2)).trans hx401_2; replace p401 := eq_true p401; replace q401 := eq_true q401) | ((with_reducible refine gate_callee (f := 91) rfl ?_); refine goesL_ (some 18) rfl rfl Tryd.func91 (by kernel_rfl) rfl #[.string ((rd_T67 l0 a1).f0)] rfl (by (try simp only [List.map_toArray, List.map_cons, List.map_nil]); first | done | rfl | (simp only [List.length_drop, List.length_take]; rfl)) ?_; (with_reducible refine (words_joint.calls k ((rd_T67 l0 a1).f0) t402 _ A7.out).mono ?_); rintro e w' ⟨rfl, ⟨nd, rfl⟩⟩; refine ⟨_, rfl, ?_⟩))
      go_ret
      exact ⟨by first | rfl | (simp [errW_none, errW_some] <;> rfl) | (simp [*, errW_none, errW_some] <;> rfl), by repeat (first | (with_reducible first | exact HB.out | apply below_alloc | apply pw_below_drewN | apply below_drew1) | exact HB.out)⟩
   ·rw [if_neg c6] at H
    have c6b0 : (t400 == 0) = false := beq_eq_false_iff_ne.mpr c6
    have c6b1 : (t400 != 0) = true := bne_iff_ne.mpr c6
    obtain rfl := Option.some.inj H
    have p399 : 0 ≤ (a1 : Int) := of_decide_eq_true (by first | (with_reducible assumption) | assumption)
    have q399 : a1 < (l0.length : Int) := of_decide_eq_true (by first | (with_reducible assumption) | assumption)
    obtain ⟨ad399, e399, hx399_0, hx399_1, hx399_2⟩ := at_T67 HR0.out a1 p399 q399
    cases e399
    replace p399 := eq_true p399
    replace q399 := eq_true q399
    go_enter Tryd.func69, Tryd.ntmps69
    go_wp2_with (first | ((with_reducible refine gate_callee (f := 90) rfl ?_); refine goesL_ (some 11) rfl rfl Tryd.func90 (by kernel_rfl) rfl #[.string ((rd_T67 l0 a1).f0)] rfl (by (try simp only [List.map_toArray, List.map_cons, List.map_nil]); first | done | rfl | (simp only [List.length_drop, List.length_take]; rfl)) ?_; (with_reducible refine (words_kind.calls ((rd_T67 l0 a1).f0) t400 _ A5.out).mono ?_); rintro e w27 ⟨rfl, hb⟩; refine ⟨_, rfl, ?_⟩; have n0_ := Aside0.mk (below_step (by repeat (first | (with_reducible first | exact HB.out | apply below_alloc | apply pw_below_drewN | apply below_drew1) | exact HB.out)) hb); clear HB; have HB := n0_; clear n0_; (try clear hb); (try clear hb2); (try clear hk); (try clear hi)))
    go_ret
    exact ⟨by first | rfl | (simp [errW_none, errW_some] <;> rfl) | (simp [*, errW_none, errW_some] <;> rfl), by repeat (first | (with_reducible first | exact HB.out | apply below_alloc | apply pw_below_drewN | apply below_drew1) | exact HB.out)⟩
  ·rw [if_neg c4] at H
   exact absurd H (by simp)
 ·rw [if_neg c3] at H
  exact absurd H (by simp)
end Go.Proofs.YthffpkdadffinaaDoor.X
namespace Go.Proofs.YthffpkdadffinaaDoor.Wd
set_option linter.unusedVariables false
set_option linter.unusedSimpArgs false
open Go.Proofs.YthffpkdadffinaaDoor.Ux (Bytes full)
open Go.Proofs.YthffpkdadffinaaDoor.Vb (cat)
open Go.Proofs.YthffpkdadffinaaDoor.Vef (foldU)
open Go.Proofs.YthffpkdadffinaaDoor.Ot (rns)
open Go.Proofs.YthffpkdadffinaaDoor.En (enc)
open Go.RowKit Go.Proofs.YthffpkdadffinaaDoorW.PrintWords Go.Proofs.YthffpkdadffinaaDoor.Ev0 Go.Proofs.YthffpkdadffinaaDoor.X Go.Proofs.YthffpkdadffinaaDoor.Oa Go.Proofs.YthffpkdadffinaaDoor.Ob Go.Proofs.YthffpkdadffinaaDoor.Vp0 Go.Proofs.YthffpkdadffinaaDoor.Sga Go.Proofs.YthffpkdadffinaaDoor.Sgb Go.Proofs.YthffpkdadffinaaDoor.Sgp Go.Proofs.YthffpkdadffinaaDoor.Sgq Go.Proofs.YthffpkdadffinaaDoor.Sgu Go.Proofs.YthffpkdadffinaaDoor.Sgv Go.Proofs.YthffpkdadffinaaDoor.Sgw Go.Proofs.YthffpkdadffinaaDoor.Wa Go.Proofs.YthffpkdadffinaaDoor.Wb
theorem runesS (s : ByteArray) (hs : s.size ≤ 1000000000) : norm_Runes.f s = some (rns (bytesOf s)) := by
  unfold norm_Runes.f runesOf
  rw [if_pos hs]
  rfl
theorem fl2_app (a b : List Int) : fl2 (a ++ b) = fl2 a ++ fl2 b := List.flatMap_append ..
theorem fl2_succ (L : List Int) (i : Nat) (h : i < L.length) : fl2 (L.take (i + 1)) = fl2 (L.take i) ++ foldU L[i] := by
  rw [List.take_succ_eq_append_getElem h, fl2_app]
  simp [fl2]
theorem fl2_take (L : List Int) (i : Nat) : (fl2 (L.take i)).length ≤ (fl2 L).length := by
  have : fl2 L = fl2 (L.take i) ++ fl2 (L.drop i) := by rw [← fl2_app, List.take_append_drop]
  rw [this, List.length_append]
  omega
theorem keyEv (b : List Int) (hB : Bytes b) (hl : b.length ≤ 1000000000) (h1 : (rns b).length ≤ 100000000) (h2 : (fl2 (nrm (rns b))).length ≤ 100000000) : Ev (fun k => words_Key.f k b) (keyS b) := by
  have h32 := r32 b hB
  have hS : norm_Runes.f (strOfNums b) = some (rns b) := by rw [runesS _ (by rw [str_size hB]; exact hl), Ot.bytes_str b hB]
  unfold words_Key.f
  rw [hS]
  simp only [Option.bind_some]
  refine Ev.bind (normEv (rns b) h32 h1) ?_
  have hn3 := nrm_len3 (rns b) h32
  have hL32 := nrm_32 (rns b) h32
  obtain ⟨L, hL⟩ : ∃ L, L = nrm (rns b) := ⟨_, rfl⟩
  have hK : keyS b = strOfNums (enc (nrm (fl2 L))) := by rw [hL]; rfl
  rw [hK]
  rw [← hL] at h2 hL32 hn3 ⊢
  clear hK hL hS
  have hF3 := nrm_len3 (fl2 L) (fl2_32 L hL32)
  have key : ∀ q i : Nat, i + q = L.length → Ev (fun k => words_Key.l0 k (fl2 (L.take i)) L (L.length : Int) (i : Int)) (strOfNums (enc (nrm (fl2 L)))) := by
    intro q
    induction q with
    | zero =>
      intro i hi
      obtain rfl : i = L.length := hi
      refine Ev.step (fun k => words_Key.l0.eq_2 ..) ?_
      simp only [if_neg (Int.lt_irrefl _), List.take_length]
      refine Ev.bind (normEv _ (fl2_32 L hL32) h2) ?_
      exact Ev.bind (Ev.of (utf_Encode.mono _) (En.enc_pure _ (by omega))) (Ev.now _)
    | succ q ih =>
      intro i hi
      have hil : i < L.length := by omega
      have ih := ih (i + 1) (by omega)
      have hsz := fl2_take L (i + 1)
      rw [fl2_succ L i hil] at ih hsz
      rw [List.length_append] at hsz
      refine Ev.step (fun k => words_Key.l0.eq_2 ..) ?_
      simp only [if_pos (show (i : Int) < (L.length : Int) by omega), if_pos (show (0 : Int) ≤ (i : Int) by omega), rd_nat hil]
      refine Ev.bind (Vp.foldEv L[i]) ?_
      rw [w64 (i := i) (by omega)]
      simp only [if_pos (show (fl2 (L.take i)).length + (foldU L[i]).length < 35184372088832 by omega)]
      exact ih
  exact key L.length 0 (by omega)
theorem kind_some (s : ByteArray) (hs : s.size ≤ 1000000000) : words_kind.f s = some (kindF s) := by
  unfold words_kind.f
  rw [runesS s hs]
  unfold kindF
  cases rns (bytesOf s) with
  | nil => rfl
  | cons x t =>
    have e1 : ¬ (((x :: t).length : Int) = 0) := by simp only [List.length_cons]; omega
    have e2 : (0 : Int) < ((x :: t).length : Int) := by simp only [List.length_cons]; omega
    have e3 : rd (x :: t) 0 = x := rfl
    simp only [Option.bind_some, if_neg e1, if_pos e2, e3, ucd_Category.f, kindU]
    repeat' split
    all_goals rfl
theorem t39 : (ByteArray.toList ⟨#[39]⟩) = [39] := Sgr.ba_data _
theorem tA : (ByteArray.toList ⟨#[226, 128, 153]⟩) = [226, 128, 153] := Sgr.ba_data _
theorem tB : (ByteArray.toList ⟨#[194, 183]⟩) = [194, 183] := Sgr.ba_data _
theorem t46 : (ByteArray.toList ⟨#[46]⟩) = [46] := Sgr.ba_data _
theorem t44 : (ByteArray.toList ⟨#[44]⟩) = [44] := Sgr.ba_data _
theorem jointEv (s : ByteArray) : Ev (fun k => words_joint.f k s) (jointF s) := by
  have b1 := Sgr.ba_list s ⟨#[39]⟩
  have b2 := Sgr.ba_list s ⟨#[226, 128, 153]⟩
  have b3 := Sgr.ba_list s ⟨#[194, 183]⟩
  have b4 := Sgr.ba_list s ⟨#[46]⟩
  have b5 := Sgr.ba_list s ⟨#[44]⟩
  rw [t39] at b1
  rw [tA] at b2
  rw [tB] at b3
  rw [t46] at b4
  rw [t44] at b5
  unfold words_joint.f
  by_cases h1 : s.toList = [39]
  · have e : jointF s = 1 := by unfold jointF; rw [if_pos (.inl (b1.1 h1))]
    simp only [if_pos h1, beq_iff_eq.2 h1, e]
    refine Ev.step (fun k => words_joint.j0.eq_2 ..) ?_
    simp only [if_true]
    exact Ev.now _
  · simp only [if_neg h1]
    by_cases h2 : s.toList = [226, 128, 153]
    · have e : jointF s = 1 := by unfold jointF; rw [if_pos (.inr (.inl (b2.1 h2)))]
      simp only [if_pos h2, beq_iff_eq.2 h2, e]
      refine Ev.step (fun k => words_joint.j0.eq_2 ..) ?_
      simp only [if_true]
      exact Ev.now _
    · simp only [if_neg h2]
      by_cases h3 : s.toList = [194, 183]
      · have e : jointF s = 1 := by unfold jointF; rw [if_pos (.inr (.inr (b3.1 h3)))]
        simp only [beq_iff_eq.2 h3, e]
        refine Ev.step (fun k => words_joint.j0.eq_2 ..) ?_
        simp only [if_true]
        exact Ev.now _
      · have hn : ¬ (s = ⟨#[39]⟩ ∨ s = ⟨#[226, 128, 153]⟩ ∨ s = ⟨#[194, 183]⟩) := by
          rintro (h | h | h)
          · exact h1 (b1.2 h)
          · exact h2 (b2.2 h)
          · exact h3 (b3.2 h)
        simp only [beq_eq_false_iff_ne.2 h3]
        refine Ev.step (fun k => words_joint.j0.eq_2 ..) ?_
        simp only [Bool.false_eq_true, if_false]
        unfold jointF
        rw [if_neg hn]
        by_cases h4 : s.toList = [46]
        · simp only [if_pos h4, if_pos (show s = ⟨#[46]⟩ ∨ s = ⟨#[44]⟩ from .inl (b4.1 h4))]
          exact Ev.now _
        · simp only [if_neg h4]
          by_cases h5 : s.toList = [44]
          · simp only [if_pos h5, if_pos (show s = ⟨#[46]⟩ ∨ s = ⟨#[44]⟩ from .inr (b5.1 h5))]
            exact Ev.now _
          · simp only [if_neg h5, if_neg (show ¬ (s = ⟨#[46]⟩ ∨ s = ⟨#[44]⟩) from fun h => h.elim (fun h => h4 (b4.2 h)) (fun h => h5 (b5.2 h)))]
            exact Ev.now _
theorem T_map (l : List SG) (i : Nat) (h : i < l.length) : T (l.map (·.f0)) i = l[i].f0 := by
  unfold T
  simp [List.getD_eq_getElem?_getD, List.getElem?_eq_getElem h]
theorem withinEv (l : List SG) (hs : ∀ s ∈ l, s.f0.size ≤ 1000000000) (hl : l.length ≤ 100000000) (i : Nat) (hi : i < l.length) : Ev (fun k => words_within.f k l (i : Int)) (inW (l.map (·.f0)) i) := by
  have ki := fun j (h : j < l.length) => kind_some l[j].f0 (hs _ (List.getElem_mem h))
  unfold words_within.f inW
  simp only [if_pos (show (0 : Int) ≤ (i : Int) by omega), if_pos (show (i : Int) < (l.length : Int) by omega), rdG hi, ki i hi, Option.bind_some, T_map l i hi]
  by_cases h0 : kindF l[i].f0 = 0
  · simp only [if_pos h0, h0]
    refine Ev.bind (jointEv l[i].f0) ?_
    obtain ⟨j, hj⟩ : ∃ j, j = jointF l[i].f0 := ⟨_, rfl⟩
    rw [← hj]
    by_cases hj0 : j = 0
    · simp only [if_pos hj0, hj0]
      exact Ev.now _
    · simp only [if_neg hj0, w64 (i := i) (by omega)]
      by_cases hip : 0 < i
      · have e1 : (i : Int) > 0 := by omega
        simp only [if_pos e1, List.length_map, decide_eq_true hip]
        by_cases hin : i + 1 < l.length
        · have e2 : wrap64 ((i : Int) - 1) = ((i - 1 : Nat) : Int) := w64d hip (by omega)
          simp only [if_pos (show ((i + 1 : Nat) : Int) < (l.length : Int) by omega), e2, if_pos (show (0 : Int) ≤ ((i - 1 : Nat) : Int) by omega), if_pos (show ((i - 1 : Nat) : Int) < (l.length : Int) by omega), rdG (show i - 1 < l.length by omega), ki (i - 1) (by omega), Option.bind_some, T_map l (i - 1) (by omega), T_map l (i + 1) hin, decide_eq_true hin]
          by_cases hk : kindF l[i - 1].f0 = j
          · simp only [if_pos hk, if_pos (show (0 : Int) ≤ ((i + 1 : Nat) : Int) by omega), rdG hin, ki (i + 1) hin, Option.bind_some, decide_eq_true hk]
            have e3 : (kindF l[i + 1].f0 == j) = decide (kindF l[i + 1].f0 = j) := rfl
            rw [e3]
            simp [hj0]
            exact Ev.now _
          · simp only [if_neg hk, decide_eq_false hk]
            simp
            exact Ev.now _
        · simp only [if_neg (show ¬ ((i + 1 : Nat) : Int) < (l.length : Int) by omega), decide_eq_false hin]
          simp
          exact Ev.now _
      · have e1 : ¬ (i : Int) > 0 := by omega
        simp only [if_neg e1, decide_eq_false hip]
        simp
        exact Ev.now _
  · simp only [if_neg h0]
    simp [h0]
    exact Ev.now _
abbrev SW := S60
theorem rdW {l : List SW} {i : Nat} (h : i < l.length) : rd_T60 l (i : Int) = l[i] := by unfold rd_T60; simp [List.getD_eq_getElem?_getD, List.getElem?_eq_getElem h]
end Go.Proofs.YthffpkdadffinaaDoor.Wd
namespace Go.Proofs.YthffpkdadffinaaDoor.Wg
set_option linter.unusedVariables false
set_option linter.unusedSimpArgs false
open Go.Proofs.YthffpkdadffinaaDoor.Ux (Bytes full)
open Go.Proofs.YthffpkdadffinaaDoor.Ot (rns)
open Go.Proofs.YthffpkdadffinaaDoor.En (enc)
open Go.RowKit Go.Proofs.YthffpkdadffinaaDoorW.PrintWords Go.Proofs.YthffpkdadffinaaDoor.Ev0 Go.Proofs.YthffpkdadffinaaDoor.X Go.Proofs.YthffpkdadffinaaDoor.Oa Go.Proofs.YthffpkdadffinaaDoor.Vp0 Go.Proofs.YthffpkdadffinaaDoor.Sga Go.Proofs.YthffpkdadffinaaDoor.Sgb Go.Proofs.YthffpkdadffinaaDoor.Sgp Go.Proofs.YthffpkdadffinaaDoor.Sgq Go.Proofs.YthffpkdadffinaaDoor.Sgv Go.Proofs.YthffpkdadffinaaDoor.Sgw Go.Proofs.YthffpkdadffinaaDoor.Wa Go.Proofs.YthffpkdadffinaaDoor.Wb Go.Proofs.YthffpkdadffinaaDoor.Wd
def gAt (l : List SG) (i : Nat) : SG := l.getD i z67
theorem gAt_eq {l : List SG} {i : Nat} (h : i < l.length) : gAt l i = l[i] := by unfold gAt; simp [List.getD_eq_getElem?_getD, List.getElem?_eq_getElem h]
def wordOf (l : List SG) (p : Nat × Nat) : SW := ⟨keyR (l.map (·.f0)) p.1 p.2, ⟨p.1, p.2, (gAt l p.1).f1, (gAt l (p.2 - 1)).f2⟩⟩
def wordsF (l : List SG) : List SW := (runsT (l.map (·.f0))).map (wordOf l)
def sizes : List ByteArray → Nat
  | [] => 0
  | x :: t => x.size + sizes t
theorem sizes_app : ∀ a b : List ByteArray, sizes (a ++ b) = sizes a + sizes b
  | [], b => by simp [sizes]
  | x :: a, b => by rw [List.cons_append, sizes, sizes, sizes_app a b, Nat.add_assoc]
theorem sizes_mem : ∀ (l : List ByteArray) (x : ByteArray), x ∈ l → x.size ≤ sizes l
  | y :: t, x, h => by
    rw [sizes]
    rcases List.mem_cons.1 h with rfl | h
    · omega
    · have := sizes_mem t x h; omega
theorem catB_size : ∀ l : List ByteArray, (catB l).size = sizes l
  | [] => rfl
  | x :: t => by
    have := catB_size t
    rw [sizes, catB, ByteArray.size_append, this]
theorem catB_snoc : ∀ (l : List ByteArray) (x : ByteArray), catB (l ++ [x]) = catB l ++ x
  | [], x => by
    refine ba_ext ?_
    show (x ++ (⟨#[]⟩ : ByteArray)).data.toList = ((⟨#[]⟩ : ByteArray) ++ x).data.toList
    rw [ba_app, ba_app]
    simp
  | y :: l, x => by
    rw [List.cons_append, catB, catB, catB_snoc l x]
    refine ba_ext ?_
    rw [ba_app, ba_app, ba_app, ba_app, List.append_assoc]
theorem catR_self (l : List ByteArray) (f : Nat) : catR l f f = ⟨#[]⟩ := by unfold catR; rw [List.drop_eq_nil_of_le (by rw [List.length_take]; omega)]; rfl
theorem catR_succ (l : List ByteArray) (f t : Nat) (h : f ≤ t) (ht : t < l.length) : catR l f (t + 1) = catR l f t ++ l[t] := by
  unfold catR
  rw [List.take_succ_eq_append_getElem ht, List.drop_append_of_le_length (by rw [List.length_take]; omega), catB_snoc]
theorem catR_size (l : List ByteArray) (f t : Nat) : (catR l f t).size ≤ sizes l := by
  unfold catR
  rw [catB_size]
  have h1 : sizes l = sizes (l.take t) + sizes (l.drop t) := by rw [← sizes_app, List.take_append_drop]
  have h2 : sizes (l.take t) = sizes ((l.take t).take f) + sizes ((l.take t).drop f) := by rw [← sizes_app, List.take_append_drop]
  omega
theorem keyS_ev (b : List Int) (hB : Bytes b) (hl : b.length ≤ 16000000) : Ev (fun k => words_Key.f k b) (keyS b) := by
  have h1 := Sgu.rns_len b
  have h2 := nrm_len3 (rns b) (r32 b hB)
  have h3 := fl2_len (nrm (rns b))
  exact keyEv b hB (by omega) (by omega) (by omega)
theorem k46 : kindF ⟨#[46]⟩ = 0 := by decide +kernel
def inR (K : Int) (mid : Bool) (P N : Int) : Bool := if K > 3 ∧ mid = true then decide (P = K - 3) && decide (N = K - 3) else decide (1 ≤ K) && decide (K ≤ 3)
end Go.Proofs.YthffpkdadffinaaDoor.Wg
namespace Go.Proofs.YthffpkdadffinaaDoor.Vrc
set_option linter.unusedVariables false
set_option linter.unusedSimpArgs false
open Go.RowKit Go.Proofs.YthffpkdadffinaaDoorW.PrintWords Go.Proofs.YthffpkdadffinaaDoor.Ev0 Go.Proofs.YthffpkdadffinaaDoor.X Go.Proofs.YthffpkdadffinaaDoor.Va Go.Proofs.YthffpkdadffinaaDoor.Vb Go.Proofs.YthffpkdadffinaaDoor.Vc Go.Proofs.YthffpkdadffinaaDoor.Vd Go.Proofs.YthffpkdadffinaaDoor.Ve Go.Proofs.YthffpkdadffinaaDoor.Vef Go.Proofs.YthffpkdadffinaaDoor.Vf Go.Proofs.YthffpkdadffinaaDoor.Vp Go.Proofs.YthffpkdadffinaaDoor.Vp0
def catB : List Int := [32, 33, 36, 37, 43, 44, 48, 58, 60, 63, 65, 91, 94, 95, 96, 97, 123, 124, 125, 126, 127, 160, 161, 162, 167, 168, 170, 171, 172, 173, 174, 178, 180, 181, 182, 184, 185, 186, 187, 188, 191, 192, 215, 216, 247, 248, 688, 768, 880, 902, 903, 904, 1024, 1154, 1155, 1162, 1328, 1632, 1642, 4352, 4608, 7680, 8125, 8192, 8203, 8208, 8232, 8234, 8240, 8260, 8352, 8385, 8400, 8413, 8486, 8487, 8490, 8492, 8592, 8960, 12288, 12289, 12292, 12353, 12439, 12441, 12443, 12449, 12539, 19968, 40960, 44032, 55204, 65296, 65306, 65533, 65534, 128512, 128592]
end Go.Proofs.YthffpkdadffinaaDoor.Vrc
namespace Go.Proofs.YthffpkdadffinaaDoor.Wr1
set_option linter.unusedVariables false
set_option linter.unusedSimpArgs false
open Go.Proofs.YthffpkdadffinaaDoor.Ux (Bytes full)
open Go.RowKit Go.Proofs.YthffpkdadffinaaDoorW.PrintWords Go.Proofs.YthffpkdadffinaaDoor.Ev0 Go.Proofs.YthffpkdadffinaaDoor.X Go.Proofs.YthffpkdadffinaaDoor.Oa Go.Proofs.YthffpkdadffinaaDoor.Ob Go.Proofs.YthffpkdadffinaaDoor.Vp0 Go.Proofs.YthffpkdadffinaaDoor.Sga Go.Proofs.YthffpkdadffinaaDoor.Sgb Go.Proofs.YthffpkdadffinaaDoor.Sgd Go.Proofs.YthffpkdadffinaaDoor.Sgp Go.Proofs.YthffpkdadffinaaDoor.Sgq Go.Proofs.YthffpkdadffinaaDoor.Sgv Go.Proofs.YthffpkdadffinaaDoor.Wa Go.Proofs.YthffpkdadffinaaDoor.Wb Go.Proofs.YthffpkdadffinaaDoor.Wd Go.Proofs.YthffpkdadffinaaDoor.Wg
def cur : Option Nat → Nat → List (Nat × Nat)
  | none, _ => []
  | some f, i => [(f, i)]
section
variable {l : List SG} {R : List SW} (hl : l.length ≤ 13000000)
end
end Go.Proofs.YthffpkdadffinaaDoor.Wr1
