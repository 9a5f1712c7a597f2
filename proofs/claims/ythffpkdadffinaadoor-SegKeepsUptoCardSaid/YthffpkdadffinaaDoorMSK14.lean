/-
  Several texts of this claim in one: what its law's proof uses.
-/
import Derived.Test.YthffpkdadffinaaDoorMSK2
import Derived.Test.YthffpkdadffinaaDoorMSK13
import Derived.Lib.SlBytesConst
import Derived.Test.YthffpkdadffinaaDoorMSK12
import Derived.Test.YthffpkdadffinaaDoorMSK11
namespace Go.Proofs.YthffpkdadffinaaDoor.X
open Go.RowKit Go.Proofs.YthffpkdadffinaaDoorW.PrintWords Go.Proofs.YthffpkdadffinaaDoorW.PrintLast Go.Proofs.YthffpkdadffinaaDoorW.PrintMore
attribute [local go_sem] max2_int min2_int max_two min_two max_three min_three max_four min_four   
set_option linter.unusedVariables false
set_option linter.unusedSimpArgs false
def slices_Equal_string_string.l0 : Nat → List ByteArray → List ByteArray → Int → Int → Option (Bool)
 | 0, _, _, _, _ => none
 | k + 1, x0, x1, x12, x13 => if x13 < x12 then (if 0 ≤ x13 then (if x13 < (x0.length : Int) then (if x13 < (x1.length : Int) then (if (rdOf ByteArray.empty x0 x13).toList = (rdOf ByteArray.empty x1 x13).toList then (slices_Equal_string_string.l0 k x0 x1 x12 (wrap64 (x13 + 1))) else (some false)) else (none)) else (none)) else (none)) else (some true)
def slices_Equal_string_string.f (k : Nat) (l0 : List ByteArray) (l1 : List ByteArray) : Option (Bool) := if (l0.length : Int) = (l1.length : Int) then (slices_Equal_string_string.l0 k l0 l1 (l0.length : Int) 0) else (some false)
theorem slices_Equal_string_string.mono_l : ∀ k, (∀ y0 y1 y2 y3, LeO (slices_Equal_string_string.l0 k y0 y1 y2 y3) (slices_Equal_string_string.l0 (k + 1) y0 y1 y2 y3))
 | 0 => fun _ _ _ _ r h => by simp [slices_Equal_string_string.l0] at h
 | k + 1 => by
  have ih0 := slices_Equal_string_string.mono_l k
  ·intro y0 y1 y2 y3
   unfold slices_Equal_string_string.l0
   repeat' first
   | (with_reducible exact ih0 _ _ _ _)
   | (with_reducible exact LeO.refl _)
   | (with_reducible exact LeO.none _)
   | (with_reducible refine LeO.ite ?_ ?_)
   | (with_reducible refine LeO.bind ?_ (fun _ => ?_))
   | exact ih0 _ _ _ _
   | exact LeO.none _
   | refine LeO.ite ?_ ?_
   | refine LeO.bind ?_ (fun _ => ?_)
theorem slices_Equal_string_string.mono : ∀ a0 a1 k, LeO (slices_Equal_string_string.f k a0 a1) (slices_Equal_string_string.f (k + 1) a0 a1) := by
 intro a0 a1 k
 have ih0 := slices_Equal_string_string.mono_l k
 unfold slices_Equal_string_string.f
 repeat' first
   | (with_reducible exact ih0 _ _ _ _)
   | (with_reducible exact LeO.refl _)
   | (with_reducible exact LeO.none _)
   | (with_reducible refine LeO.ite ?_ ?_)
   | (with_reducible refine LeO.bind ?_ (fun _ => ?_))
   | exact ih0 _ _ _ _
   | exact LeO.none _
   | refine LeO.ite ?_ ?_
   | refine LeO.bind ?_ (fun _ => ?_)
set_option maxHeartbeats 8000000 in
set_option maxRecDepth 100000 in
theorem slices_Equal_string_string.calls (k : Nat) (A0 : Option Addr) (c0 : Nat) (l0 : List ByteArray) (A1 : Option Addr) (c1 : Nat) (l1 : List ByteArray) (r : Bool) (w : World) (hr0 : Kd.C Kd.string w A0 l0.length l0) (hc0 : l0.length ≤ c0) (hr1 : Kd.C Kd.string w A1 l1.length l1) (hc1 : l1.length ≤ c1) (h : slices_Equal_string_string.f k l0 l1 = some r) :
  Calls Tryd.prog 80 #[.slice A0 l0.length c0, .slice A1 l1.length c1] w fun e w' => e = .returned (.bool r) ∧ Drawn0 w w' := by
 have HR0 := Aside0.mk hr0
 have HC0 := Aside0.mk hc0
 clear hr0 hc0
 have HR1 := Aside0.mk hr1
 have HC1 := Aside0.mk hc1
 clear hr1 hc1
 have H : (if (l0.length : Int) = (l1.length : Int) then (slices_Equal_string_string.l0 k l0 l1 (l0.length : Int) 0) else (some false)) = some r := h
 clear h
 by_cases c3 : (l0.length : Int) = (l1.length : Int)
 ·rw [if_pos c3] at H
  have c3b0 : ((l0.length : Int) == (l1.length : Int)) = true := beq_iff_eq.mpr c3
  have c3b1 : ((l0.length : Int) != (l1.length : Int)) = false := bne_eq_false_iff_eq.mpr c3
  have c3b2 : (l0.length == l1.length) = true := by first | simpa using c3 | (simp at c3 ⊢; omega)
  clear c3
  have H' := Aside0.mk H
  clear H
  go_enter Tryd.func80, Tryd.ntmps80
  go_wp2
  repeat (go_quiet (fail); try go_wp2)
  go_loopg [13] k (fun kq v13 w' => ∃ (x13_1 : Int), v13 = .int .i64 x13_1 ∧ Aside0 (slices_Equal_string_string.l0 kq l0 l1 (l0.length : Int) x13_1 = some r) ∧ Aside0 (kq ≤ k) ∧ Drawn0 w w')
  case atStart => exact ⟨(0), (by first | rfl | (simp; done) | (simp [*]; done)), H', ⟨Nat.le_refl _⟩, by repeat (first | exact Drawn0.refl _ | apply Drawn0.step)⟩
  case round =>
   clear H'
   try clear c1
   try clear p2
   try clear c3
   try clear c3b0
   try clear c3b1
   try clear c3b2
   obtain ⟨x13_1, rfl, HA, HK1, ⟨m1, rfl⟩⟩ := hrel
   cases gk with
   | zero => exact absurd HA.out (by simp [slices_Equal_string_string.l0])
   | succ k1 =>
    have H := HA.out
    clear HA
    simp only [slices_Equal_string_string.l0] at H
    by_cases c4 : x13_1 < (l0.length : Int)
    ·rw [if_pos c4] at H
     have c4b0 : decide (x13_1 < (l0.length : Int)) = true := decide_eq_true c4
     clear c4
     by_cases c5 : 0 ≤ x13_1
     ·rw [if_pos c5] at H
      have c5b0 : decide (0 ≤ x13_1) = true := decide_eq_true c5
      clear c5
      by_cases c6 : x13_1 < (l0.length : Int)
      ·rw [if_pos c6] at H
       have c6b0 : decide (x13_1 < (l0.length : Int)) = true := decide_eq_true c6
       clear c6
       by_cases c7 : x13_1 < (l1.length : Int)
       ·rw [if_pos c7] at H
        have c7b0 : decide (x13_1 < (l1.length : Int)) = true := decide_eq_true c7
        clear c7
        by_cases c8 : (rdOf ByteArray.empty l0 x13_1).toList = (rdOf ByteArray.empty l1 x13_1).toList
        ·rw [if_pos c8] at H
         have c8b0 : ((rdOf ByteArray.empty l0 x13_1).toList == (rdOf ByteArray.empty l1 x13_1).toList) = true := beq_iff_eq.mpr c8
         have c8b1 : ((rdOf ByteArray.empty l0 x13_1).toList != (rdOf ByteArray.empty l1 x13_1).toList) = false := bne_eq_false_iff_eq.mpr c8
         clear c8
         have H' := Aside0.mk H
         clear H
         have p233 : 0 ≤ (x13_1 : Int) := of_decide_eq_true (by first | (with_reducible assumption) | assumption)
         have q233 : x13_1 < (l0.length : Int) := of_decide_eq_true (by first | (with_reducible assumption) | assumption)
         obtain ⟨ad233, e233, hx233_0⟩ := Kd.at_string HR0.out x13_1 p233 q233
         cases e233
         replace p233 := eq_true p233
         replace q233 := eq_true q233
         have p234 : 0 ≤ (x13_1 : Int) := of_decide_eq_true (by first | (with_reducible assumption) | assumption)
         have q234 : x13_1 < (l1.length : Int) := of_decide_eq_true (by first | (with_reducible assumption) | assumption)
         obtain ⟨ad234, e234, hx234_0⟩ := Kd.at_string HR1.out x13_1 p234 q234
         cases e234
         replace p234 := eq_true p234
         replace q234 := eq_true q234
         go_wp2
         repeat (go_quiet (fail); try go_wp2)
         go_roundg k1
         case measure => have := HK1.out; omega
         case rel => exact ⟨(wrap64 (x13_1 + 1)), (by first | rfl | (simp; done) | (simp [*]; done)), H', ⟨by have := HK1.out; omega⟩, by repeat (first | exact Drawn0.refl _ | apply Drawn0.step)⟩
        ·rw [if_neg c8] at H
         have c8b0 : ((rdOf ByteArray.empty l0 x13_1).toList == (rdOf ByteArray.empty l1 x13_1).toList) = false := beq_eq_false_iff_ne.mpr c8
         have c8b1 : ((rdOf ByteArray.empty l0 x13_1).toList != (rdOf ByteArray.empty l1 x13_1).toList) = true := bne_iff_ne.mpr c8
         obtain rfl := Option.some.inj H
         have p233 : 0 ≤ (x13_1 : Int) := of_decide_eq_true (by first | (with_reducible assumption) | assumption)
         have q233 : x13_1 < (l0.length : Int) := of_decide_eq_true (by first | (with_reducible assumption) | assumption)
         obtain ⟨ad233, e233, hx233_0⟩ := Kd.at_string HR0.out x13_1 p233 q233
         cases e233
         replace p233 := eq_true p233
         replace q233 := eq_true q233
         have p234 : 0 ≤ (x13_1 : Int) := of_decide_eq_true (by first | (with_reducible assumption) | assumption)
         have q234 : x13_1 < (l1.length : Int) := of_decide_eq_true (by first | (with_reducible assumption) | assumption)
         obtain ⟨ad234, e234, hx234_0⟩ := Kd.at_string HR1.out x13_1 p234 q234
         cases e234
         replace p234 := eq_true p234
         replace q234 := eq_true q234
         go_wp2
         repeat (go_quiet (fail); try go_wp2)
         go_ret
         exact ⟨by first | rfl | (simp; done) | (simp [*]; done), by repeat (first | exact Drawn0.refl _ | apply Drawn0.step)⟩
       ·rw [if_neg c7] at H
        exact absurd H (by simp)
      ·rw [if_neg c6] at H
       exact absurd H (by simp)
     ·rw [if_neg c5] at H
      exact absurd H (by simp)
    ·rw [if_neg c4] at H
     have c4b0 : decide (x13_1 < (l0.length : Int)) = false := decide_eq_false c4
     clear c4
     obtain rfl := Option.some.inj H
     go_wp2
     repeat (go_quiet (fail); try go_wp2)
     go_ret
     exact ⟨by first | rfl | (simp; done) | (simp [*]; done), by repeat (first | exact Drawn0.refl _ | apply Drawn0.step)⟩
 ·rw [if_neg c3] at H
  have c3b0 : ((l0.length : Int) == (l1.length : Int)) = false := beq_eq_false_iff_ne.mpr c3
  have c3b1 : ((l0.length : Int) != (l1.length : Int)) = true := bne_iff_ne.mpr c3
  have c3b2 : (l0.length == l1.length) = false := by first | simpa using c3 | (simp at c3 ⊢; omega)
  obtain rfl := Option.some.inj H
  go_enter Tryd.func80, Tryd.ntmps80
  go_wp2
  repeat (go_quiet (fail); try go_wp2)
  go_ret
  exact ⟨by first | rfl | (simp; done) | (simp [*]; done), by repeat (first | exact Drawn0.refl _ | apply Drawn0.step)⟩
end Go.Proofs.YthffpkdadffinaaDoor.X
namespace Go.Proofs.YthffpkdadffinaaDoor.X
open Go.RowKit Go.Proofs.YthffpkdadffinaaDoorW.PrintWords Go.Proofs.YthffpkdadffinaaDoorW.PrintLast Go.Proofs.YthffpkdadffinaaDoorW.PrintMore
attribute [local go_sem] max2_int min2_int max_two min_two max_three min_three max_four min_four   
set_option linter.unusedVariables false
set_option linter.unusedSimpArgs false
def seg_Same.f (k : Nat) (l0 : List Int) (l1 : List Int) : Option (Bool) := (seg_Texts.f l0).bind fun t235 => ((seg_Texts.f l1).bind fun t238 => ((slices_Equal_string_string.f k t235 t238).bind fun t241 => (some t241)))
theorem seg_Same.mono : ∀ a0 a1 k, LeO (seg_Same.f k a0 a1) (seg_Same.f (k + 1) a0 a1) := by
 intro a0 a1 k
 unfold seg_Same.f
 repeat' first
   | (with_reducible exact slices_Equal_string_string.mono _ _ _)
   | (with_reducible exact LeO.refl _)
   | (with_reducible exact LeO.none _)
   | (with_reducible refine LeO.ite ?_ ?_)
   | (with_reducible refine LeO.bind ?_ (fun _ => ?_))
   | exact slices_Equal_string_string.mono _ _ _
   | exact LeO.none _
   | refine LeO.ite ?_ ?_
   | refine LeO.bind ?_ (fun _ => ?_)
set_option maxHeartbeats 8000000 in
set_option maxRecDepth 100000 in
theorem seg_Same.calls (k : Nat) (A0 : Option Addr) (c0 : Nat) (l0 : List Int) (A1 : Option Addr) (c1 : Nat) (l1 : List Int) (r : Bool) (w : World) (hr0 : Kd.C (Kd.int .u8) w A0 l0.length l0) (hc0 : l0.length ≤ c0) (hr1 : Kd.C (Kd.int .u8) w A1 l1.length l1) (hc1 : l1.length ≤ c1) (h : seg_Same.f k l0 l1 = some r) (hG0 : Va.G w) :
  Calls Tryd.prog 40 #[.slice A0 l0.length c0, .slice A1 l1.length c1] w fun e w' => e = .returned (.bool r) ∧ Below w.heap.size w w' := by
 have HG := Aside0.mk hG0
 clear hG0
 have HR0 := Aside0.mk hr0
 have HC0 := Aside0.mk hc0
 clear hr0 hc0
 have HR1 := Aside0.mk hr1
 have HC1 := Aside0.mk hc1
 clear hr1 hc1
 have HB := Aside0.mk (Below.refl w.heap.size w)
 have H : ((seg_Texts.f l0).bind fun t235 => ((seg_Texts.f l1).bind fun t238 => ((slices_Equal_string_string.f k t235 t238).bind fun t241 => (some t241)))) = some r := h
 clear h
 replace H := Option.bind_eq_some_iff.mp H
 obtain ⟨t235, A30, H⟩ := H
 replace H : ((seg_Texts.f l1).bind fun t238 => ((slices_Equal_string_string.f k t235 t238).bind fun t241 => (some t241))) = some r := H
 have A3 := Aside0.mk A30
 clear A30
 replace H := Option.bind_eq_some_iff.mp H
 obtain ⟨t238, A40, H⟩ := H
 replace H : ((slices_Equal_string_string.f k t235 t238).bind fun t241 => (some t241)) = some r := H
 have A4 := Aside0.mk A40
 clear A40
 replace H := Option.bind_eq_some_iff.mp H
 obtain ⟨t241, A50, H⟩ := H
 replace H : (some t241) = some r := H
 have A5 := Aside0.mk A50
 clear A50
 obtain rfl := Option.some.inj H
 go_enter Tryd.func40, Tryd.ntmps40
 go_wp2_with (first | ((with_reducible refine gate_callee (f := 41) rfl ?_); refine goesL_ (some 6) rfl rfl Tryd.func41 (by kernel_rfl) rfl #[.slice A0 l0.length c0] rfl (by (try simp only [List.map_toArray, List.map_cons, List.map_nil]); first | done | rfl | (simp only [List.length_drop, List.length_take]; rfl)) ?_; (with_reducible refine (seg_Texts.calls _ _ l0 t235 _ ?side1 ?side2 A3.out (by first | exact HG.out | exact Va.G.below HG.out (by repeat (first | (with_reducible first | exact HB.out | apply below_alloc | apply pw_below_drewN | apply below_drew1) | exact HB.out)))).mono ?_); (case side1 => repeat (first | exact HR0.out | (with_reducible refine Kd.C_alloc ?_ _) | (with_reducible refine Kd.C_drewN ?_ _) | (with_reducible refine Kd.C_drew ?_))); (case side2 => exact HC0.out); rintro e w6 ⟨v236, rfl, ho0, hb⟩; refine ⟨_, rfl, ?_⟩; have n0_ := Aside0.mk (Kd.R_lower ho0 (below_size (by repeat (first | (with_reducible first | exact HB.out | apply below_alloc | apply pw_below_drewN | apply below_drew1) | exact HB.out)))); have n1_ := Aside0.mk (below_step (by repeat (first | (with_reducible first | exact HB.out | apply below_alloc | apply pw_below_drewN | apply below_drew1) | exact HB.out)) hb); clear HB; have HO237 := n0_; have HB := n1_; clear n0_ n1_; (try clear hb); (try clear hb2); (try clear hk); (try clear hi); (try clear ho0)) | ((with_reducible refine gate_callee (f := 41) rfl ?_); refine goesL_ (some 8) rfl rfl Tryd.func41 (by kernel_rfl) rfl #[.slice A1 l1.length c1] rfl (by (try simp only [List.map_toArray, List.map_cons, List.map_nil]); first | done | rfl | (simp only [List.length_drop, List.length_take]; rfl)) ?_; (with_reducible refine (seg_Texts.calls _ _ l1 t238 _ ?side1 ?side2 A4.out (by first | exact HG.out | exact Va.G.below HG.out (by repeat (first | (with_reducible first | exact HB.out | apply below_alloc | apply pw_below_drewN | apply below_drew1) | exact HB.out)))).mono ?_); (case side1 => repeat (first | exact (Kd.C_below HR1.out HB.out) | (with_reducible refine Kd.C_alloc ?_ _) | (with_reducible refine Kd.C_drewN ?_ _) | (with_reducible refine Kd.C_drew ?_))); (case side2 => exact HC1.out); rintro e w7 ⟨v239, rfl, ho0, hb⟩; refine ⟨_, rfl, ?_⟩; have n0_ := Aside0.mk (Kd.R_elder' (by (with_reducible repeat (first | apply Kd.R_alloc | apply Kd.R_drewN | apply Kd.R_drew)); exact HO237.out) (Kd.R_base ho0) hb); have n1_ := Aside0.mk (Kd.R_lower (Kd.R_new' ho0 (Kd.R_lt (by (with_reducible repeat (first | apply Kd.R_alloc | apply Kd.R_drewN | apply Kd.R_drew)); exact HO237.out))) (below_size (by repeat (first | (with_reducible first | exact HB.out | apply below_alloc | apply pw_below_drewN | apply below_drew1) | exact HB.out)))); have n2_ := Aside0.mk (below_step (by repeat (first | (with_reducible first | exact HB.out | apply below_alloc | apply pw_below_drewN | apply below_drew1) | exact HB.out)) hb); clear HO237; clear HB; have HO237 := n0_; have HO240 := n1_; have HB := n2_; clear n0_ n1_ n2_; (try clear hb); (try clear hb2); (try clear hk); (try clear hi); (try clear ho0); obtain ⟨Ao8, co8, eo8⟩ := Kd.R_slice HO237.out; subst eo8; obtain ⟨Ao9, co9, eo9⟩ := Kd.R_slice HO240.out; subst eo9) | ((with_reducible refine gate_callee (f := 80) rfl ?_); refine goesL_ (some 9) rfl rfl Tryd.func80 (by kernel_rfl) rfl #[.slice Ao8 t235.length co8, .slice Ao9 t238.length co9] rfl (by (try simp only [List.map_toArray, List.map_cons, List.map_nil]); first | done | rfl | (simp only [List.length_drop, List.length_take]; rfl)) ?_; (with_reducible refine (slices_Equal_string_string.calls k _ _ t235 _ _ t238 t241 _ ?side1 ?side2 ?side3 ?side4 A5.out).mono ?_); (case side1 => repeat (first | exact (Kd.R_reads' HO237.out).2.2 | (with_reducible refine Kd.C_alloc ?_ _) | (with_reducible refine Kd.C_drewN ?_ _) | (with_reducible refine Kd.C_drew ?_))); (case side2 => exact (Kd.R_reads' HO237.out).2.1); (case side3 => repeat (first | exact (Kd.R_reads' HO240.out).2.2 | (with_reducible refine Kd.C_alloc ?_ _) | (with_reducible refine Kd.C_drewN ?_ _) | (with_reducible refine Kd.C_drew ?_))); (case side4 => exact (Kd.R_reads' HO240.out).2.1); rintro e w' ⟨rfl, ⟨nd, rfl⟩⟩; refine ⟨_, rfl, ?_⟩))
 go_ret
 exact ⟨by first | rfl | (simp [errW_none, errW_some] <;> rfl) | (simp [*, errW_none, errW_some] <;> rfl), by repeat (first | (with_reducible first | exact HB.out | apply below_alloc | apply pw_below_drewN | apply below_drew1) | exact HB.out)⟩
end Go.Proofs.YthffpkdadffinaaDoor.X
namespace Go.Proofs.YthffpkdadffinaaDoor.Sgf
set_option linter.unusedVariables false
set_option linter.unusedSimpArgs false
open Go.Proofs.YthffpkdadffinaaDoor.Fr (K3 T3)
open Go.Proofs.YthffpkdadffinaaDoor.Ux (Bytes one1 dc rest1 full dec)
open Go.Proofs.YthffpkdadffinaaDoor.Dc (decT)
open Go.RowKit Go.Proofs.YthffpkdadffinaaDoorW.PrintWords Go.Proofs.YthffpkdadffinaaDoor.Hp Go.Proofs.YthffpkdadffinaaDoor.Fm Go.Proofs.YthffpkdadffinaaDoor.X Go.Proofs.YthffpkdadffinaaDoor.Va Go.Proofs.YthffpkdadffinaaDoor.Oa Go.Proofs.YthffpkdadffinaaDoor.Vp0 Go.Proofs.YthffpkdadffinaaDoor.Cn Go.Proofs.YthffpkdadffinaaDoor.Sga Go.Proofs.YthffpkdadffinaaDoor.Sgb Go.Proofs.YthffpkdadffinaaDoor.Sgc Go.Proofs.YthffpkdadffinaaDoor.Sgd
section
variable {w0 w w' : World} {L M : List Th}
theorem litB (W : World) (cs : Array Value) (fr : Nat × Nat) (xs : List Int) (hc : cs.toList = nums .u8 xs) (hm : xs.length ≤ 9223372036854775807) : KB.C (W.alloc (.cells cs 5 fr)) (some ⟨W.heap.size, 0, none⟩) xs.length xs :=
  rdC (lit_reads (k := .u8) (heap_alloc_new W _) hc hm)
theorem splitC (hG : G w0) (S : Sep w0 L w) (A : Option Addr) (n c : Nat) (xs : List Int) (hC : KB.C w A n xs) (hn : n = xs.length) (hB : bytesB xs = true) (hl : n ≤ 100) (lim : Int) (out : List SG) (er : Int) (m : Nat) (hr : splitF lim xs = (out, er)) (hm : m = out.length) :
    Calls Tryd.prog 39 #[.slice A n c, .int .i64 lim] w fun E w' => ∃ A' c', E = .returned (.tuple #[.slice A' m c', .int .i64 er]) ∧ Sep w0 (L ++ [rowT kG TG w0.heap.size (.slice A' m c') out]) w' := by
  subst hm
  refine (SplitP w (hG.below S.below) A n c xs hC hn (bytesB_of hB) (by omega) lim).mono ?_
  rintro E w' ⟨v, rfl, p1, p2⟩
  rw [hr] at p1 ⊢
  obtain ⟨A', c', rfl⟩ := Kd.R_slice p1
  exact ⟨A', c', rfl, S.newR p1 p2⟩
theorem segLater {g gd : Nat} {lim dat a e er : Int} {kept o : List Int} {dcl cl : Bool} (S : Seg w0 g gd lim kept dat dcl o a e cl er M w) (h : Below w.heap.size w w') : Seg w0 g gd lim kept dat dcl o a e cl er M w' := by
  obtain ⟨ov, s⟩ := S
  exact ⟨ov, s.later h⟩
theorem writeC (hG : G w0) {g gd : Nat} {lim dat a e : Int} {kept o : List Int} (S : Seg w0 g gd lim kept dat false o a e false 0 M w) (A : Option Addr) (n c : Nat) (xs : List Int) (hC : KB.C w A n xs) (hB : bytesB (kept ++ xs) = true) (hlen : kept.length + n ≤ 100000000) (hat : 0 ≤ dat ∧ dat ≤ 1000000000000) (hlim : lim ≤ 50000000) (ho : (o.length : Int) ≤ lim) (ho32 : ok32 o = true)
    (pts : List SP) (kept' : List Int) (dat' : Int) (hp : dc (kept ++ xs) dat = (pts, kept', dat')) (out : List SG) (o' : List Int) (a' e' : Int) (bad : Bool) (hR : tk lim pts o a e = (out, o', a', e', bad)) (m : Nat) (hm : m = out.length) :
    Calls Tryd.prog 15 #[.pointer (some ⟨g, 0, none⟩), .slice A n c] w fun E w' => ∃ A' c', E = .returned (.tuple #[.slice A' m c', .int .i64 (errOf bad)]) ∧ Seg w0 g gd lim kept' dat' false o' a' e' false (errOf bad) (M ++ [rowT kG TG w0.heap.size (.slice A' m c') out]) w' := by
  subst hm
  refine (WriteOk w0 hG w g gd lim kept dat o a e M S A n c xs hC (bytesB_of hB) hlen hat hlim ho (ok32_of ho32) pts kept' dat' hp).mono ?_
  rw [hR]
  rintro E w' ⟨v, rfl, ov, s⟩
  obtain ⟨A', c', rfl, -, -⟩ := Sep.reads (d := kG) (e := TG) (base := w0.heap.size) (v := v) (xs := out) s (M.length + 3) (at3 _ _ _ M [] _)
  exact ⟨A', c', rfl, ov, s⟩
theorem closeC (hG : G w0) {g gd : Nat} {lim dat a e : Int} {kept o : List Int} (S : Seg w0 g gd lim kept dat false o a e false 0 M w) (hlen : kept.length ≤ 100000000) (hat : 0 ≤ dat ∧ dat ≤ 1000000000000) (hlim0 : 0 ≤ lim) (hlim : lim ≤ 50000000) (ho : (o.length : Int) ≤ lim) (ho32 : ok32 o = true)
    (out : List SG) (o' : List Int) (a' e' : Int) (bad : Bool) (hR : tk lim (rest1 kept dat) o a e = (out, o', a', e', bad)) (m : Nat) (hm : m = (fin (out, o', a', e', bad)).length) :
    Calls Tryd.prog 20 #[.pointer (some ⟨g, 0, none⟩)] w fun E w' => ∃ A' c', E = .returned (.tuple #[.slice A' m c', .int .i64 (errOf bad)]) ∧ Seg w0 g gd lim [] dat true [] a' e' true (errOf bad) (M ++ [rowT kG TG w0.heap.size (.slice A' m c') (fin (out, o', a', e', bad))]) w' := by
  subst hm
  refine (CloseOk w0 hG w g gd lim kept dat o a e M S hlen hat hlim0 hlim ho (ok32_of ho32)).mono ?_
  rw [hR]
  rintro E w' ⟨v, rfl, ov, s⟩
  obtain ⟨A', c', rfl, -, -⟩ := Sep.reads (d := kG) (e := TG) (base := w0.heap.size) (v := v) (xs := fin (out, o', a', e', bad)) s (M.length + 3) (at3 _ _ _ M [] _)
  exact ⟨A', c', rfl, ov, s⟩
theorem pendC {g gd : Nat} {lim dat a e er : Int} {kept o : List Int} {dcl cl : Bool} (S : Seg w0 g gd lim kept dat dcl o a e cl er M w) (m : Nat) (hm : m = o.length) : Calls Tryd.prog 18 #[.pointer (some ⟨g, 0, none⟩)] w fun E w' => E = .returned (.int .i64 m) ∧ w = w' := by
  subst hm
  obtain ⟨ov, s⟩ := S
  obtain ⟨A, c, rfl, -, -⟩ := s.reads 1 rfl
  exact PendR (s.blk 0 rfl).1
theorem errC {g gd : Nat} {lim dat a e er : Int} {kept o : List Int} {dcl cl : Bool} (S : Seg w0 g gd lim kept dat dcl o a e cl er M w) : Calls Tryd.prog 19 #[.pointer (some ⟨g, 0, none⟩)] w fun E w' => E = .returned (.int .i64 er) ∧ w = w' := by
  obtain ⟨ov, s⟩ := S
  exact ErrR (s.blk 0 rfl).1
end
theorem conv2 (W : World) (o : Obj) (C : Array Value) (n c : Nat) : (convert 23 23 (.slice (some ⟨W.heap.size + 1, 0, none⟩) n c)).run Tryd.prog ((W.alloc o).alloc (.cells C 5)) = .ok (.slice (some ⟨W.heap.size + 1, 0, none⟩) n c) ((W.alloc o).alloc (.cells C 5 (C.size, C.size + 1))) := by
  have := Lib.run_convert_bytes_const (P := Tryd.prog) (W.alloc o) 23 5 C n c Tryd.underlying23 Tryd.underlying5
  rw [World.size_alloc] at this
  exact this
theorem sameC (W : World) (hG : G W) : Calls Tryd.prog 40 #[.slice (some ⟨W.heap.size, 0, none⟩) 2 2, .slice (some ⟨W.heap.size + 1, 0, none⟩) 3 3] ((W.alloc (.cells #[.int .u8 195, .int .u8 169] 5 (2, 3))).alloc (.cells #[.int .u8 101, .int .u8 204, .int .u8 129] 5 (3, 4))) fun e w' => e = .returned (.bool true) ∧ Below W.heap.size W w' := by
  have b1 := below_alloc (Below.refl W.heap.size W) (.cells #[.int .u8 195, .int .u8 169] 5 (2, 3))
  have b2 := below_alloc (Below.refl _ (W.alloc (.cells #[.int .u8 195, .int .u8 169] 5 (2, 3)))) (.cells #[.int .u8 101, .int .u8 204, .int .u8 129] 5 (3, 4))
  have b12 := below_then b1 b1.size b2
  have h2 := litB (W.alloc (.cells #[.int .u8 195, .int .u8 169] 5 (2, 3))) #[.int .u8 101, .int .u8 204, .int .u8 129] (3, 4) [101, 204, 129] rfl (by simp)
  rw [World.size_alloc] at h2
  refine (seg_Same.calls 40 _ 2 [195, 169] _ 3 [101, 204, 129] true _ (Kd.C_below (litB W #[.int .u8 195, .int .u8 169] (2, 3) [195, 169] rfl (by simp)) b2) (Nat.le_refl _) h2 (Nat.le_refl _) (by kernel_rfl) (hG.below b12)).mono fun e w' ⟨h1, h3⟩ => ⟨h1, ?_⟩
  exact below_then b12 b12.size h3
theorem textsC (W : World) (hG : G W) : Calls Tryd.prog 41 #[.slice (some ⟨W.heap.size, 0, none⟩) 2 2] (W.alloc (.cells #[.int .u8 97, .int .u8 98] 5 (2, 3))) fun e w' => ∃ A c, e = .returned (.slice A 2 c) ∧ Below W.heap.size W w' := by
  have b1 := below_alloc (Below.refl W.heap.size W) (.cells #[.int .u8 97, .int .u8 98] 5 (2, 3))
  refine (seg_Texts.calls _ 2 [97, 98] [⟨#[97]⟩, ⟨#[98]⟩] _ (litB W #[.int .u8 97, .int .u8 98] (2, 3) [97, 98] rfl (by simp)) (Nat.le_refl _) (by kernel_rfl) (hG.below b1)).mono fun e w' ⟨v, h1, h2, h3⟩ => ?_
  obtain ⟨A, c, rfl⟩ := Kd.R_slice h2
  exact ⟨A, c, h1, below_then b1 b1.size h3⟩
def g1 : SG := ⟨⟨#[101, 204, 129]⟩, 0, 3⟩
def g2 : SG := ⟨⟨#[120]⟩, 3, 4⟩
def g3 : SG := ⟨⟨#[120]⟩, 0, 1⟩
theorem sp1 : splitF 8 [101, 204, 129, 120] = ([g1, g2], 0) := by kernel_rfl
theorem sp2 : splitF 2 [120, 97, 204, 129, 204, 130] = ([g3], 6) := by kernel_rfl
theorem sp3 : splitF 0 [] = ([], 1) := rfl
theorem d1 : dc ([] ++ [101]) 0 = ([⟨101, 0, 1⟩], [], 1) := by kernel_rfl
theorem t1 : tk 8 [⟨101, 0, 1⟩] [] 0 0 = ([], [101], 0, 1, false) := by kernel_rfl
theorem d2 : dc ([] ++ [204]) 1 = ([], [204], 1) := by kernel_rfl
theorem t2 : tk 8 [] [101] 0 1 = ([], [101], 0, 1, false) := rfl
theorem d3 : dc ([204] ++ [129, 120]) 1 = ([⟨769, 1, 2⟩, ⟨120, 3, 1⟩], [], 4) := by kernel_rfl
theorem t3 : tk 8 [⟨769, 1, 2⟩, ⟨120, 3, 1⟩] [101] 0 1 = ([g1], [120], 3, 4, false) := by kernel_rfl
theorem t4 : tk 8 (rest1 [] 4) [120] 3 4 = ([], [120], 3, 4, false) := rfl
theorem f4 : fin ([], [120], 3, 4, false) = [g2] := by kernel_rfl
set_option maxRecDepth 100000 in
set_option maxHeartbeats 8000000 in
theorem segFixedP (w : World) (hG : G w) : Calls Tryd.prog 13 #[] w fun e w' => e = .returned (.bool true) ∧ Below w.heap.size w w' := by
  have kc := fun (W : World) (C : Array Value) (n c : Nat) => Lib.run_convert_bytes_const (P := Tryd.prog) W 23 5 C n c Tryd.underlying23 Tryd.underlying5
  have kc2 := fun (W : World) (o : Obj) (C : Array Value) (n c : Nat) => conv2 W o C n c
  have s1 : (ByteArray.mk #[101, 204, 129] == ByteArray.mk #[101, 204, 129]) = true := by decide
  have S0 := Aside0.mk (Sep.nil w)
  have h0 : errOf false = 0 := rfl
  go_enter Tryd.func13, Tryd.ntmps13
  go_upto_region 2 with (first | (go_at_call 39; go_must (refine (splitC hG (S0.out.later (below_alloc (Below.refl _ _) _)) _ 4 4 [101, 204, 129, 120] (litB w _ _ [101, 204, 129, 120] rfl (by simp)) rfl rfl (by decide) 8 [g1, g2] 0 2 sp1 rfl).mono ?_; rintro E w1 ⟨A1, c1, rfl, p1⟩; have S1 := Aside0.mk p1; clear p1 S0)))
  go_upto_region 3 with (first | (go_at_call 39; go_must (refine (splitC hG (S1.out.later (below_alloc (Below.refl _ _) _)) _ 6 6 [120, 97, 204, 129, 204, 130] (litB w1 _ _ [120, 97, 204, 129, 204, 130] rfl (by simp)) rfl rfl (by decide) 2 [g3] 6 1 sp2 rfl).mono ?_; rintro E w2 ⟨A2, c2, rfl, p1⟩; have S2 := Aside0.mk p1; clear p1)))
  go_upto_region 4 with (first | (go_at_call 39; go_must (refine (splitC hG S2.out none 0 0 [] (Kd.C_nil KB w2) rfl rfl (by decide) 0 [] 1 0 sp3 rfl).mono ?_; rintro E w3 ⟨A3, c3, rfl, p1⟩; have S3 := Aside0.mk p1; clear p1 S2)))
  go_upto_region 7 with (first | (go_at_call 14; go_must (refine (NewOk S3.out 8 (by decide) (by decide)).mono ?_; rintro E w4 ⟨g, gd, rfl, p1⟩; have S4 := Aside0.mk p1; clear p1 S3)))
  go_upto_region 8 with (first | (go_at_call 15; go_must (refine (writeC hG (segLater S4.out (below_alloc (Below.refl _ _) _)) _ 1 1 [101] (litB w4 _ _ [101] rfl (by simp)) rfl (by decide) (by decide) (by decide) (by decide) rfl _ _ _ d1 _ _ _ _ _ t1 0 rfl).mono ?_; rintro E w5 ⟨A5, c5, rfl, p1⟩; have S5 := Aside0.mk p1; clear p1 S4)))
  go_upto_region 9 with (first | (go_at_call 15; go_must (refine (writeC hG (segLater S5.out (below_alloc (Below.refl _ _) _)) _ 1 1 [204] (litB w5 _ _ [204] rfl (by simp)) rfl (by decide) (by decide) (by decide) (by decide) rfl _ _ _ d2 _ _ _ _ _ t2 0 rfl).mono ?_; rintro E w6 ⟨A6, c6, rfl, p1⟩; have S6 := Aside0.mk p1; clear p1 S5)))
  go_upto_region 10 with (first | (go_at_call 18; go_must (refine (pendC S6.out 1 rfl).mono ?_; rintro E w7 ⟨rfl, rfl⟩)))
  go_upto_region 11 with (first | (go_at_call 15; go_must (refine (writeC hG (segLater S6.out (below_alloc (Below.refl _ _) _)) _ 2 2 [129, 120] (litB w6 _ _ [129, 120] rfl (by simp)) rfl (by decide) (by decide) (by decide) (by decide) rfl _ _ _ d3 _ _ _ _ _ t3 1 rfl).mono ?_; rintro E w8 ⟨A8, c8, rfl, p1⟩; have S8 := Aside0.mk p1; clear p1 S6)))
  go_upto_region 12 with (first | (go_at_call 20; go_must (refine (closeC hG S8.out (by decide) (by decide) (by decide) (by decide) (by decide) rfl _ _ _ _ _ t4 1 (by rw [f4]; rfl)).mono ?_; rw [f4]; rintro E w9 ⟨A9, c9, rfl, p1⟩; have S9 := Aside0.mk p1; clear p1 S8)))
  obtain ⟨ov, hS⟩ := S9.out
  obtain ⟨ad, rfl, z0, z1, z2⟩ := sg_at (Sep.rows (d := kG) (e := TG) (base := w.heap.size) (A := A1) (m := 2) (c := c1) (xs := [g1, g2]) hS 3 rfl).2.2 0 (by decide) (by decide)
  rw [Nat.zero_mul, show ad.add 0 = ad by cases ad; simp [Addr.add]] at z0 z1 z2
  replace z0 : w9.cell? ad = some (.string ⟨#[101, 204, 129]⟩) := z0
  replace z1 : w9.cell? ⟨ad.block, ad.off + 1, none⟩ = some (.int .i64 0) := z1
  replace z2 : w9.cell? ⟨ad.block, ad.off + 2, none⟩ = some (.int .i64 3) := z2
  have HB := Aside0.mk hS.below
  clear hS
  have HGG := Aside0.mk hG
  go_wp2_with (first | (go_at_call 19; go_must (refine (errC S9.out).mono ?_; rintro E w10 ⟨rfl, rfl⟩)) | (go_at_call 40; go_must (refine (sameC w9 (HGG.out.below HB.out)).mono ?_; rintro E w11 ⟨rfl, p1⟩; have n0_ := Aside0.mk (below_then HB.out HB.out.size p1); clear HB p1; have HB := n0_; clear n0_)) | (go_at_call 41; go_must (refine (textsC w11 (HGG.out.below HB.out)).mono ?_; rintro E w12 ⟨A12, c12, rfl, p1⟩; have n0_ := Aside0.mk (below_then HB.out HB.out.size p1); clear HB p1; have HB := n0_; clear n0_)))
  go_ret
  exact ⟨rfl, HB.out⟩
end Go.Proofs.YthffpkdadffinaaDoor.Sgf
namespace Go.Proofs.YthffpkdadffinaaDoor.X
set_option linter.unusedVariables false
set_option linter.unusedSimpArgs false
open Go.RowKit Go.Proofs.YthffpkdadffinaaDoorW.PrintWords
end Go.Proofs.YthffpkdadffinaaDoor.X
namespace Go.Proofs.YthffpkdadffinaaDoor.Rt
set_option linter.unusedVariables false
set_option linter.unusedSimpArgs false
open Go.RowKit Go.Proofs.YthffpkdadffinaaDoorW.PrintWords Go.Proofs.YthffpkdadffinaaDoor.Hp Go.Proofs.YthffpkdadffinaaDoor.Ux Go.Proofs.YthffpkdadffinaaDoor.En Go.Proofs.YthffpkdadffinaaDoor.X
theorem one1_enc (f : Int) (hv : vld f = true) (s : List Int) : ∃ c t, encv f = c :: t ∧ one1 c (t ++ s) = (f, (((encv f).length : Nat) : Int), false) := by
  simp only [vld, decide_eq_true_eq] at hv
  unfold encv
  split
  · rename_i h1
    exact ⟨f, [], rfl, by simp [one1, bnd, st, h1, cont]⟩
  · split
    · rename_i h1 h2
      refine ⟨_, _, rfl, ?_⟩
      unfold one1 bnd st
      rw [if_neg (by omega), if_neg (by omega), if_pos (by omega), if_neg (by omega), if_pos (by omega)]
      simp only [List.cons_append, List.nil_append, cont]
      rw [if_neg (by omega)]
      simp only [List.length_cons, List.length_nil, Prod.mk.injEq]
      exact ⟨by omega, by omega, trivial⟩
    · split
      · rename_i h1 h2 h3
        refine ⟨_, _, rfl, ?_⟩
        unfold one1 bnd st
        rw [if_neg (show ¬ (224 + f / 4096 < 128) by omega), if_neg (show ¬ (224 + f / 4096 < 194 ∨ 244 < 224 + f / 4096) by omega), if_neg (show ¬ (224 + f / 4096 < 224) by omega), if_pos (show 224 + f / 4096 < 240 by omega), if_neg (show ¬ (224 + f / 4096 < 128) by omega), if_neg (show ¬ (224 + f / 4096 < 224) by omega), if_pos (show 224 + f / 4096 < 240 by omega)]
        simp only [List.cons_append, List.nil_append, cont]
        rw [if_neg (by split <;> split <;> omega), if_neg (by omega)]
        simp only [List.length_cons, List.length_nil, Prod.mk.injEq]
        exact ⟨by omega, by omega, trivial⟩
      · rename_i h1 h2 h3
        refine ⟨_, _, rfl, ?_⟩
        unfold one1 bnd st
        rw [if_neg (show ¬ (240 + f / 262144 < 128) by omega), if_neg (show ¬ (240 + f / 262144 < 194 ∨ 244 < 240 + f / 262144) by omega), if_neg (show ¬ (240 + f / 262144 < 224) by omega), if_neg (show ¬ 240 + f / 262144 < 240 by omega), if_neg (show ¬ (240 + f / 262144 < 128) by omega), if_neg (show ¬ (240 + f / 262144 < 224) by omega), if_neg (show ¬ 240 + f / 262144 < 240 by omega)]
        simp only [List.cons_append, List.nil_append, cont]
        rw [if_neg (by split <;> split <;> omega), if_neg (by omega), if_neg (by omega)]
        simp only [List.length_cons, List.length_nil, Prod.mk.injEq]
        exact ⟨by omega, by omega, trivial⟩
theorem dc_encv (f : Int) (hv : vld f = true) (s : List Int) (p : Int) : dc (encv f ++ s) p = ((⟨f, p, (encv f).length⟩ : S103) :: (dc s (p + (encv f).length)).1, (dc s (p + (encv f).length)).2) := by
  obtain ⟨c, t, h1, h2⟩ := one1_enc f hv s
  have hl : (encv f).length = t.length + 1 := by rw [h1]; rfl
  rw [h1, List.cons_append, dc_cons, h2]
  simp only [Bool.false_eq_true, if_false]
  have e : (c :: (t ++ s)).drop (((encv f).length : Nat) : Int).toNat = s := by rw [Int.toNat_natCast, hl]; simp
  rw [e, hl]
  simp
end Go.Proofs.YthffpkdadffinaaDoor.Rt
namespace Go.Proofs.YthffpkdadffinaaDoor.Bk
set_option linter.unusedVariables false
set_option linter.unusedSimpArgs false
open Go.RowKit Go.Proofs.YthffpkdadffinaaDoorW.PrintWords Go.Proofs.YthffpkdadffinaaDoor.Hp Go.Proofs.YthffpkdadffinaaDoor.Ux Go.Proofs.YthffpkdadffinaaDoor.En Go.Proofs.YthffpkdadffinaaDoor.Rt Go.Proofs.YthffpkdadffinaaDoor.X
def ful (b : List Int) (p : Int) : List S103 := (dc b p).1 ++ rest1 (dc b p).2.1 (dc b p).2.2
theorem full_ful (b : List Int) : full b = ful b 0 := rfl
theorem ful_nil (p : Int) : ful [] p = [] := by simp [ful, dc_nil, rest1]
theorem ful_cons (c : Int) (t : List Int) (p : Int) : ful (c :: t) p = (⟨(one1 c t).1, p, (one1 c t).2.1⟩ : S103) :: ful ((c :: t).drop (one1 c t).2.1.toNat) (p + (one1 c t).2.1) := by
  cases h : (one1 c t).2.2 with
  | true =>
    have h3 := one1_more c t h
    have e : (c :: t).drop (one1 c t).2.1.toNat = [] := by rw [h3.2.1]; exact List.drop_eq_nil_of_le (by simp; omega)
    rw [e, ful_nil]
    unfold ful
    rw [dc_cons, if_pos h]
    simp [rest1, h3.1, h3.2.1]
    omega
  | false =>
    unfold ful
    rw [dc_cons, if_neg (by simp [h])]
    simp
theorem ful_enc1 (r : Int) (s : List Int) (p : Int) : ful (enc1 r ++ s) p = (⟨fixr r, p, (enc1 r).length⟩ : S103) :: ful s (p + (enc1 r).length) := by
  unfold ful enc1
  rw [dc_encv (fixr r) (fixr_ok r).2.2 s p]
  simp
theorem ful_enc : ∀ (l : List Int) (p : Int), (ful (enc l) p).map (·.f0) = l.map fixr
  | [], p => by simp [enc, ful_nil]
  | r :: l, p => by
    simp only [enc]
    rw [ful_enc1]
    simp [ful_enc l]
theorem str_inj {a b : List Int} (ha : Bytes a) (hb : Bytes b) (h : strOfNums a = strOfNums b) : a = b := by
  have h1 : a.map (fun n => UInt8.ofNat n.toNat) = b.map (fun n => UInt8.ofNat n.toNat) := by rw [← strOfNums_data, ← strOfNums_data, h]
  clear h
  induction a generalizing b with
  | nil => cases b with
    | nil => rfl
    | cons y b => simp at h1
  | cons x a ih =>
    cases b with
    | nil => simp at h1
    | cons y b =>
      simp only [List.map_cons] at h1
      injection h1 with h2 h3
      have hx := ha x List.mem_cons_self
      have hy := hb y List.mem_cons_self
      have h4 := congrArg UInt8.toNat h2
      simp only [UInt8.toNat_ofNat'] at h4
      have : x = y := by omega
      rw [this, ih (fun z hz => ha z (List.mem_cons_of_mem _ hz)) (fun z hz => hb z (List.mem_cons_of_mem _ hz)) h3]
end Go.Proofs.YthffpkdadffinaaDoor.Bk
