/-
  Several texts of this claim in one: what its law's proof uses.
-/
import Derived.Test.YthffpkdadffinaaDoorMWJ11
import Derived.Test.YthffpkdadffinaaDoorMWJ10
import Derived.Test.YthffpkdadffinaaDoorMWJ12
import Derived.Test.YthffpkdadffinaaDoorMWJ2
import Derived.Test.YthffpkdadffinaaDoorMWJ6
import Derived.Test.YthffpkdadffinaaDoorMWJ4
import Derived.Test.YthffpkdadffinaaDoorMWJ7
import Derived.Test.YthffpkdadffinaaDoorMWJ9
import Derived.Lib.SlBytesConst
namespace Go.Proofs.YthffpkdadffinaaDoor.Rt
set_option linter.unusedVariables false
set_option linter.unusedSimpArgs false
open Go.RowKit YthffpkdadffinaaDoorW.PrintWords Hp Ux En X
theorem one1_enc (f : Int) (hv : vld f = true) (s : List Int) : ∃ c t, encv f = c :: t ∧ one1 c (t ++ s) = (f, (((encv f).length : Nat) : Int), false) := by
  simp only [vld, decide_eq_true_eq] at hv; unfold encv; split
  · rename_i h1; exact ⟨f, [], rfl, by simp [one1, bnd, st, h1, cont]⟩
  · split
    · rename_i h1 h2; refine ⟨_, _, rfl, ?_⟩; unfold one1 bnd st; rw [if_neg (by omega), if_neg (by omega), if_pos (by omega), if_neg (by omega), if_pos (by omega)]; simp only [List.cons_append, List.nil_append, cont]; rw [if_neg (by omega)]; simp only [List.length_cons, List.length_nil, Prod.mk.injEq]; exact ⟨by omega, by omega, trivial⟩
    · split
      · rename_i h1 h2 h3; refine ⟨_, _, rfl, ?_⟩; unfold one1 bnd st; rw [if_neg (show ¬ (224 + f / 4096 < 128) by omega), if_neg (show ¬ (224 + f / 4096 < 194 ∨ 244 < 224 + f / 4096) by omega), if_neg (show ¬ (224 + f / 4096 < 224) by omega), if_pos (show 224 + f / 4096 < 240 by omega), if_neg (show ¬ (224 + f / 4096 < 128) by omega), if_neg (show ¬ (224 + f / 4096 < 224) by omega), if_pos (show 224 + f / 4096 < 240 by omega)]; simp only [List.cons_append, List.nil_append, cont]; rw [if_neg (by split <;> split <;> omega), if_neg (by omega)]; simp only [List.length_cons, List.length_nil, Prod.mk.injEq]; exact ⟨by omega, by omega, trivial⟩
      · rename_i h1 h2 h3; refine ⟨_, _, rfl, ?_⟩; unfold one1 bnd st; rw [if_neg (show ¬ (240 + f / 262144 < 128) by omega), if_neg (show ¬ (240 + f / 262144 < 194 ∨ 244 < 240 + f / 262144) by omega), if_neg (show ¬ (240 + f / 262144 < 224) by omega), if_neg (show ¬ 240 + f / 262144 < 240 by omega), if_neg (show ¬ (240 + f / 262144 < 128) by omega), if_neg (show ¬ (240 + f / 262144 < 224) by omega), if_neg (show ¬ 240 + f / 262144 < 240 by omega)]; simp only [List.cons_append, List.nil_append, cont]; rw [if_neg (by split <;> split <;> omega), if_neg (by omega), if_neg (by omega)]; simp only [List.length_cons, List.length_nil, Prod.mk.injEq]; exact ⟨by omega, by omega, trivial⟩
theorem dc_encv (f : Int) (hv : vld f = true) (s : List Int) (p : Int) : dc (encv f ++ s) p = ((⟨f, p, (encv f).length⟩ : S103) :: (dc s (p + (encv f).length)).1, (dc s (p + (encv f).length)).2) := by
  obtain ⟨c, t, h1, h2⟩ := one1_enc f hv s; (have hl : (encv f).length = t.length + 1 := by rw [h1]; rfl); rw [h1, List.cons_append, dc_cons, h2]; simp only [Bool.false_eq_true, if_false]; (have e : (c :: (t ++ s)).drop (((encv f).length : Nat) : Int).toNat = s := by rw [Int.toNat_natCast, hl]; simp); rw [e, hl]; simp
end Go.Proofs.YthffpkdadffinaaDoor.Rt
namespace Go.Proofs.YthffpkdadffinaaDoor.Bk
set_option linter.unusedVariables false
set_option linter.unusedSimpArgs false
open Go.RowKit YthffpkdadffinaaDoorW.PrintWords Hp Ux En Rt X
def ful (b : List Int) (p : Int) : List S103 := (dc b p).1 ++ rest1 (dc b p).2.1 (dc b p).2.2
theorem ful_nil (p : Int) : ful [] p = [] := by simp [ful, dc_nil, rest1]
theorem ful_cons (c : Int) (t : List Int) (p : Int) : ful (c :: t) p = (⟨(one1 c t).1, p, (one1 c t).2.1⟩ : S103) :: ful ((c :: t).drop (one1 c t).2.1.toNat) (p + (one1 c t).2.1) := by
  cases h : (one1 c t).2.2 with
  | true =>
    have h3 := one1_more c t h; (have e : (c :: t).drop (one1 c t).2.1.toNat = [] := by rw [h3.2.1]; exact List.drop_eq_nil_of_le (by simp; omega)); rw [e, ful_nil]; unfold ful; rw [dc_cons, if_pos h]; simp [rest1, h3.1, h3.2.1]; omega
  | false =>
    unfold ful; rw [dc_cons, if_neg (by simp [h])]; simp
theorem ful_enc1 (r : Int) (s : List Int) (p : Int) : ful (enc1 r ++ s) p = (⟨fixr r, p, (enc1 r).length⟩ : S103) :: ful s (p + (enc1 r).length) := by
  unfold ful enc1; rw [dc_encv (fixr r) (fixr_ok r).2.2 s p]; simp
theorem ful_enc : ∀ (l : List Int) (p : Int), (ful (enc l) p).map (·.f0) = l.map fixr
  | [], p => by simp [enc, ful_nil]
  | r :: l, p => by
    simp only [enc]; rw [ful_enc1]; simp [ful_enc l]
theorem str_inj {a b : List Int} (ha : Bytes a) (hb : Bytes b) (h : strOfNums a = strOfNums b) : a = b := by
  (have h1 : a.map (fun n => UInt8.ofNat n.toNat) = b.map (fun n => UInt8.ofNat n.toNat) := by rw [← strOfNums_data, ← strOfNums_data, h]); clear h
  induction a generalizing b with
  | nil => cases b with
    | nil => rfl
    | cons y b => simp at h1
  | cons x a ih =>
    cases b with
    | nil => simp at h1
    | cons y b =>
      simp only [List.map_cons] at h1; injection h1 with h2 h3; have hx := ha x List.mem_cons_self; have hy := hb y List.mem_cons_self; have h4 := congrArg UInt8.toNat h2; simp only [UInt8.toNat_ofNat'] at h4; (have : x = y := by omega); rw [this, ih (fun z hz => ha z (List.mem_cons_of_mem _ hz)) (fun z hz => hb z (List.mem_cons_of_mem _ hz)) h3]
end Go.Proofs.YthffpkdadffinaaDoor.Bk
namespace Go.Proofs.YthffpkdadffinaaDoor.Sgp
set_option linter.unusedVariables false
set_option linter.unusedSimpArgs false
open Go.Proofs.YthffpkdadffinaaDoor.Vd (decU)
open Go.Proofs.YthffpkdadffinaaDoor.Ve (opn)
open Go.Proofs.YthffpkdadffinaaDoor.Ux (Bytes one1 dc rest1 full dec)
open Go.Proofs.YthffpkdadffinaaDoor.En (enc fixr enc_byte)
open Go.RowKit YthffpkdadffinaaDoorW.PrintWords Ev0 X Oa Ob Vp0 Sga Sgb Sgc Sgd
theorem flat_ne (l : List Int) (h : l ≠ []) : flat l ≠ [] := by
  cases l with
  | nil => exact absurd rfl h
  | cons x t =>
    rw [flat_cons]; intro e; exact Ve.decF_ne 4 x (List.append_eq_nil_iff.1 e).1
end Go.Proofs.YthffpkdadffinaaDoor.Sgp
namespace Go.Proofs.YthffpkdadffinaaDoor.Sgq
set_option linter.unusedVariables false
set_option linter.unusedSimpArgs false
open Go.Proofs.YthffpkdadffinaaDoor.Vd (decU)
open Go.Proofs.YthffpkdadffinaaDoor.Ve (opn)
open Go.Proofs.YthffpkdadffinaaDoor.Ux (Bytes one1 dc rest1 full dec)
open Go.Proofs.YthffpkdadffinaaDoor.En (enc fixr enc_byte)
open Go.RowKit YthffpkdadffinaaDoorW.PrintWords Ev0 X Oa Ob Vp0 Vr Vu Sga Sgb Sgc Sgd Sgp
theorem rdG {l : List SG} {i : Nat} (h : i < l.length) : rd_T67 l (i : Int) = l[i] := by unfold rd_T67; simp [List.getD_eq_getElem?_getD, List.getElem?_eq_getElem h]
end Go.Proofs.YthffpkdadffinaaDoor.Sgq
namespace Go.Proofs.YthffpkdadffinaaDoor.X
open Go.RowKit YthffpkdadffinaaDoorW.PrintWords YthffpkdadffinaaDoorW.PrintLast YthffpkdadffinaaDoorW.PrintMore
attribute [local go_sem] max2_int min2_int max_two min_two max_three min_three max_four min_four   
set_option linter.unusedVariables false
set_option linter.unusedSimpArgs false
def slices_Equal_string_string.l0 : Nat → List ByteArray → List ByteArray → Int → Int → Option (Bool)
 | 0, _, _, _, _ => none
 | k + 1, x0, x1, x12, x13 => if x13 < x12 then (if 0 ≤ x13 then (if x13 < (x0.length : Int) then (if x13 < (x1.length : Int) then (if (rdOf ByteArray.empty x0 x13).toList = (rdOf ByteArray.empty x1 x13).toList then (slices_Equal_string_string.l0 k x0 x1 x12 (wrap64 (x13 + 1))) else (some false)) else (none)) else (none)) else (none)) else (some true)
def slices_Equal_string_string.f (k : Nat) (l0 : List ByteArray) (l1 : List ByteArray) : Option (Bool) := if (l0.length : Int) = (l1.length : Int) then (slices_Equal_string_string.l0 k l0 l1 (l0.length : Int) 0) else (some false)
theorem slices_Equal_string_string.mono_l : ∀ k, (∀ y0 y1 y2 y3, LeO (slices_Equal_string_string.l0 k y0 y1 y2 y3) (slices_Equal_string_string.l0 (k + 1) y0 y1 y2 y3))
 | 0 => fun _ _ _ _ r h => by simp [slices_Equal_string_string.l0] at h
 | k + 1 => by
  have ih0 := slices_Equal_string_string.mono_l k
  ·intro y0 y1 y2 y3; unfold slices_Equal_string_string.l0; repeat' first | (with_reducible exact ih0 _ _ _ _) | (with_reducible exact LeO.refl _) | (with_reducible exact LeO.none _) | (with_reducible refine LeO.ite ?_ ?_) | (with_reducible refine LeO.bind ?_ (fun _ => ?_)) | exact ih0 _ _ _ _ | exact LeO.none _ | refine LeO.ite ?_ ?_ | refine LeO.bind ?_ (fun _ => ?_)
theorem slices_Equal_string_string.mono : ∀ a0 a1 k, LeO (slices_Equal_string_string.f k a0 a1) (slices_Equal_string_string.f (k + 1) a0 a1) := by
 intro a0 a1 k; have ih0 := slices_Equal_string_string.mono_l k; unfold slices_Equal_string_string.f; repeat' first | (with_reducible exact ih0 _ _ _ _) | (with_reducible exact LeO.refl _) | (with_reducible exact LeO.none _) | (with_reducible refine LeO.ite ?_ ?_) | (with_reducible refine LeO.bind ?_ (fun _ => ?_)) | exact ih0 _ _ _ _ | exact LeO.none _ | refine LeO.ite ?_ ?_ | refine LeO.bind ?_ (fun _ => ?_)
set_option maxHeartbeats 8000000 in
set_option maxRecDepth 100000 in
theorem slices_Equal_string_string.calls (k : Nat) (A0 : Option Addr) (c0 : Nat) (l0 : List ByteArray) (A1 : Option Addr) (c1 : Nat) (l1 : List ByteArray) (r : Bool) (w : World) (hr0 : Kd.C Kd.string w A0 l0.length l0) (hc0 : l0.length ≤ c0) (hr1 : Kd.C Kd.string w A1 l1.length l1) (hc1 : l1.length ≤ c1) (h : slices_Equal_string_string.f k l0 l1 = some r) :
  Calls Tryd.prog 80 #[.slice A0 l0.length c0, .slice A1 l1.length c1] w fun e w' => e = .returned (.bool r) ∧ Drawn0 w w' := by
 have HR0 := Aside0.mk hr0; have HC0 := Aside0.mk hc0; clear hr0 hc0; have HR1 := Aside0.mk hr1; have HC1 := Aside0.mk hc1; clear hr1 hc1; have H : (if (l0.length : Int) = (l1.length : Int) then (slices_Equal_string_string.l0 k l0 l1 (l0.length : Int) 0) else (some false)) = some r := h; clear h; by_cases c3 : (l0.length : Int) = (l1.length : Int)
 ·rw [if_pos c3] at H; have c3b0 : ((l0.length : Int) == (l1.length : Int)) = true := beq_iff_eq.mpr c3; have c3b1 : ((l0.length : Int) != (l1.length : Int)) = false := bne_eq_false_iff_eq.mpr c3; (have c3b2 : (l0.length == l1.length) = true := by first | simpa using c3 | (simp at c3 ⊢; omega)); clear c3; have H' := Aside0.mk H; clear H; go_enter Tryd.func80, Tryd.ntmps80; go_wp2; (repeat (go_quiet (fail); try go_wp2)); go_loopg [13] k (fun kq v13 w' => ∃ (x13_1 : Int), v13 = .int .i64 x13_1 ∧ Aside0 (slices_Equal_string_string.l0 kq l0 l1 (l0.length : Int) x13_1 = some r) ∧ Aside0 (kq ≤ k) ∧ Drawn0 w w')
  case atStart => exact ⟨(0), (by first | rfl | (simp; done) | (simp [*]; done)), H', ⟨Nat.le_refl _⟩, by repeat (first | exact Drawn0.refl _ | apply Drawn0.step)⟩
  case round =>
   clear H'; (try clear c1); (try clear p2); (try clear c3); (try clear c3b0); (try clear c3b1); (try clear c3b2); obtain ⟨x13_1, rfl, HA, HK1, ⟨m1, rfl⟩⟩ := hrel
   cases gk with
   | zero => exact absurd HA.out (by simp [slices_Equal_string_string.l0])
   | succ k1 =>
    have H := HA.out; clear HA; simp only [slices_Equal_string_string.l0] at H; by_cases c4 : x13_1 < (l0.length : Int)
    ·rw [if_pos c4] at H; have c4b0 : decide (x13_1 < (l0.length : Int)) = true := decide_eq_true c4; clear c4; by_cases c5 : 0 ≤ x13_1
     ·rw [if_pos c5] at H; have c5b0 : decide (0 ≤ x13_1) = true := decide_eq_true c5; clear c5; by_cases c6 : x13_1 < (l0.length : Int)
      ·rw [if_pos c6] at H; have c6b0 : decide (x13_1 < (l0.length : Int)) = true := decide_eq_true c6; clear c6; by_cases c7 : x13_1 < (l1.length : Int)
       ·rw [if_pos c7] at H; have c7b0 : decide (x13_1 < (l1.length : Int)) = true := decide_eq_true c7; clear c7; by_cases c8 : (rdOf ByteArray.empty l0 x13_1).toList = (rdOf ByteArray.empty l1 x13_1).toList
        ·rw [if_pos c8] at H; have c8b0 : ((rdOf ByteArray.empty l0 x13_1).toList == (rdOf ByteArray.empty l1 x13_1).toList) = true := beq_iff_eq.mpr c8; have c8b1 : ((rdOf ByteArray.empty l0 x13_1).toList != (rdOf ByteArray.empty l1 x13_1).toList) = false := bne_eq_false_iff_eq.mpr c8; clear c8; have H' := Aside0.mk H; clear H; have p210 : 0 ≤ (x13_1 : Int) := of_decide_eq_true (by first | (with_reducible assumption) | assumption); have q210 : x13_1 < (l0.length : Int) := of_decide_eq_true (by first | (with_reducible assumption) | assumption); obtain ⟨ad210, e210, hx210_0⟩ := Kd.at_string HR0.out x13_1 p210 q210; cases e210; replace p210 := eq_true p210; replace q210 := eq_true q210; have p211 : 0 ≤ (x13_1 : Int) := of_decide_eq_true (by first | (with_reducible assumption) | assumption); have q211 : x13_1 < (l1.length : Int) := of_decide_eq_true (by first | (with_reducible assumption) | assumption); obtain ⟨ad211, e211, hx211_0⟩ := Kd.at_string HR1.out x13_1 p211 q211; cases e211; replace p211 := eq_true p211; replace q211 := eq_true q211; go_wp2; (repeat (go_quiet (fail); try go_wp2)); go_roundg k1
         case measure => have := HK1.out; omega
         case rel => exact ⟨(wrap64 (x13_1 + 1)), (by first | rfl | (simp; done) | (simp [*]; done)), H', ⟨by have := HK1.out; omega⟩, by repeat (first | exact Drawn0.refl _ | apply Drawn0.step)⟩
        ·rw [if_neg c8] at H; have c8b0 : ((rdOf ByteArray.empty l0 x13_1).toList == (rdOf ByteArray.empty l1 x13_1).toList) = false := beq_eq_false_iff_ne.mpr c8; have c8b1 : ((rdOf ByteArray.empty l0 x13_1).toList != (rdOf ByteArray.empty l1 x13_1).toList) = true := bne_iff_ne.mpr c8; obtain rfl := Option.some.inj H; have p210 : 0 ≤ (x13_1 : Int) := of_decide_eq_true (by first | (with_reducible assumption) | assumption); have q210 : x13_1 < (l0.length : Int) := of_decide_eq_true (by first | (with_reducible assumption) | assumption); obtain ⟨ad210, e210, hx210_0⟩ := Kd.at_string HR0.out x13_1 p210 q210; cases e210; replace p210 := eq_true p210; replace q210 := eq_true q210; have p211 : 0 ≤ (x13_1 : Int) := of_decide_eq_true (by first | (with_reducible assumption) | assumption); have q211 : x13_1 < (l1.length : Int) := of_decide_eq_true (by first | (with_reducible assumption) | assumption); obtain ⟨ad211, e211, hx211_0⟩ := Kd.at_string HR1.out x13_1 p211 q211; cases e211; replace p211 := eq_true p211; replace q211 := eq_true q211; go_wp2; (repeat (go_quiet (fail); try go_wp2)); go_ret; exact ⟨by first | rfl | (simp; done) | (simp [*]; done), by repeat (first | exact Drawn0.refl _ | apply Drawn0.step)⟩
       ·rw [if_neg c7] at H; exact absurd H (by simp)
      ·rw [if_neg c6] at H; exact absurd H (by simp)
     ·rw [if_neg c5] at H; exact absurd H (by simp)
    ·rw [if_neg c4] at H; have c4b0 : decide (x13_1 < (l0.length : Int)) = false := decide_eq_false c4; clear c4; obtain rfl := Option.some.inj H; go_wp2; (repeat (go_quiet (fail); try go_wp2)); go_ret; exact ⟨by first | rfl | (simp; done) | (simp [*]; done), by repeat (first | exact Drawn0.refl _ | apply Drawn0.step)⟩
 ·rw [if_neg c3] at H; have c3b0 : ((l0.length : Int) == (l1.length : Int)) = false := beq_eq_false_iff_ne.mpr c3; have c3b1 : ((l0.length : Int) != (l1.length : Int)) = true := bne_iff_ne.mpr c3; (have c3b2 : (l0.length == l1.length) = false := by first | simpa using c3 | (simp at c3 ⊢; omega)); obtain rfl := Option.some.inj H; go_enter Tryd.func80, Tryd.ntmps80; go_wp2; (repeat (go_quiet (fail); try go_wp2)); go_ret; exact ⟨by first | rfl | (simp; done) | (simp [*]; done), by repeat (first | exact Drawn0.refl _ | apply Drawn0.step)⟩
end Go.Proofs.YthffpkdadffinaaDoor.X
namespace Go.Proofs.YthffpkdadffinaaDoor.X
open Go.RowKit YthffpkdadffinaaDoorW.PrintWords YthffpkdadffinaaDoorW.PrintLast YthffpkdadffinaaDoorW.PrintMore
attribute [local go_sem] max2_int min2_int max_two min_two max_three min_three max_four min_four   
set_option linter.unusedVariables false
set_option linter.unusedSimpArgs false
def seg_Same.f (k : Nat) (l0 : List Int) (l1 : List Int) : Option (Bool) := (seg_Texts.f l0).bind fun t212 => ((seg_Texts.f l1).bind fun t215 => ((slices_Equal_string_string.f k t212 t215).bind fun t218 => (some t218)))
theorem seg_Same.mono : ∀ a0 a1 k, LeO (seg_Same.f k a0 a1) (seg_Same.f (k + 1) a0 a1) := by
 intro a0 a1 k; unfold seg_Same.f; repeat' first | (with_reducible exact slices_Equal_string_string.mono _ _ _) | (with_reducible exact LeO.refl _) | (with_reducible exact LeO.none _) | (with_reducible refine LeO.ite ?_ ?_) | (with_reducible refine LeO.bind ?_ (fun _ => ?_)) | exact slices_Equal_string_string.mono _ _ _ | exact LeO.none _ | refine LeO.ite ?_ ?_ | refine LeO.bind ?_ (fun _ => ?_)
set_option maxHeartbeats 8000000 in
set_option maxRecDepth 100000 in
theorem seg_Same.calls (k : Nat) (A0 : Option Addr) (c0 : Nat) (l0 : List Int) (A1 : Option Addr) (c1 : Nat) (l1 : List Int) (r : Bool) (w : World) (hr0 : Kd.C (Kd.int .u8) w A0 l0.length l0) (hc0 : l0.length ≤ c0) (hr1 : Kd.C (Kd.int .u8) w A1 l1.length l1) (hc1 : l1.length ≤ c1) (h : seg_Same.f k l0 l1 = some r) (hG0 : Va.G w) :
  Calls Tryd.prog 40 #[.slice A0 l0.length c0, .slice A1 l1.length c1] w fun e w' => e = .returned (.bool r) ∧ Below w.heap.size w w' := by
 have HG := Aside0.mk hG0; clear hG0; have HR0 := Aside0.mk hr0; have HC0 := Aside0.mk hc0; clear hr0 hc0; have HR1 := Aside0.mk hr1; have HC1 := Aside0.mk hc1; clear hr1 hc1; have HB := Aside0.mk (Below.refl w.heap.size w); have H : ((seg_Texts.f l0).bind fun t212 => ((seg_Texts.f l1).bind fun t215 => ((slices_Equal_string_string.f k t212 t215).bind fun t218 => (some t218)))) = some r := h; clear h; replace H := Option.bind_eq_some_iff.mp H; obtain ⟨t212, A30, H⟩ := H; (try dsimp only at H); have A3 := Aside0.mk A30; clear A30; replace H := Option.bind_eq_some_iff.mp H; obtain ⟨t215, A40, H⟩ := H; (try dsimp only at H); have A4 := Aside0.mk A40; clear A40; replace H := Option.bind_eq_some_iff.mp H; obtain ⟨t218, A50, H⟩ := H; replace H : (some t218) = some r := H; have A5 := Aside0.mk A50; clear A50; obtain rfl := Option.some.inj H; go_enter Tryd.func40, Tryd.ntmps40; go_wp2_with (first | ((with_reducible refine gate_callee (f := 41) rfl ?_); refine goesL_ (some 6) rfl rfl Tryd.func41 (by kernel_rfl) rfl #[.slice A0 l0.length c0] rfl (by (try simp only [List.map_toArray, List.map_cons, List.map_nil]); first | done | rfl | (simp only [List.length_drop, List.length_take]; rfl)) ?_; (with_reducible refine (seg_Texts.calls _ _ l0 t212 _ ?side1 ?side2 A3.out (by first | exact HG.out | exact Va.G.below HG.out (by repeat (first | (with_reducible first | exact HB.out | apply below_alloc | apply pw_below_drewN | apply below_drew1) | exact HB.out)))).mono ?_); (case side1 => repeat (first | exact HR0.out | (with_reducible refine Kd.C_alloc ?_ _) | (with_reducible refine Kd.C_drewN ?_ _) | (with_reducible refine Kd.C_drew ?_))); (case side2 => exact HC0.out); rintro e w6 ⟨v213, rfl, ho0, hb⟩; refine ⟨_, rfl, ?_⟩; have n0_ := Aside0.mk (Kd.R_lower ho0 (below_size (by repeat (first | (with_reducible first | exact HB.out | apply below_alloc | apply pw_below_drewN | apply below_drew1) | exact HB.out)))); have n1_ := Aside0.mk (below_step (by repeat (first | (with_reducible first | exact HB.out | apply below_alloc | apply pw_below_drewN | apply below_drew1) | exact HB.out)) hb); clear HB; have HO214 := n0_; have HB := n1_; clear n0_ n1_; (try clear hb); (try clear hb2); (try clear hk); (try clear hi); (try clear ho0)) | ((with_reducible refine gate_callee (f := 41) rfl ?_); refine goesL_ (some 8) rfl rfl Tryd.func41 (by kernel_rfl) rfl #[.slice A1 l1.length c1] rfl (by (try simp only [List.map_toArray, List.map_cons, List.map_nil]); first | done | rfl | (simp only [List.length_drop, List.length_take]; rfl)) ?_; (with_reducible refine (seg_Texts.calls _ _ l1 t215 _ ?side1 ?side2 A4.out (by first | exact HG.out | exact Va.G.below HG.out (by repeat (first | (with_reducible first | exact HB.out | apply below_alloc | apply pw_below_drewN | apply below_drew1) | exact HB.out)))).mono ?_); (case side1 => repeat (first | exact (Kd.C_below HR1.out HB.out) | (with_reducible refine Kd.C_alloc ?_ _) | (with_reducible refine Kd.C_drewN ?_ _) | (with_reducible refine Kd.C_drew ?_))); (case side2 => exact HC1.out); rintro e w7 ⟨v216, rfl, ho0, hb⟩; refine ⟨_, rfl, ?_⟩; have n0_ := Aside0.mk (Kd.R_elder' (by (with_reducible repeat (first | apply Kd.R_alloc | apply Kd.R_drewN | apply Kd.R_drew)); exact HO214.out) (Kd.R_base ho0) hb); have n1_ := Aside0.mk (Kd.R_lower (Kd.R_new' ho0 (Kd.R_lt (by (with_reducible repeat (first | apply Kd.R_alloc | apply Kd.R_drewN | apply Kd.R_drew)); exact HO214.out))) (below_size (by repeat (first | (with_reducible first | exact HB.out | apply below_alloc | apply pw_below_drewN | apply below_drew1) | exact HB.out)))); have n2_ := Aside0.mk (below_step (by repeat (first | (with_reducible first | exact HB.out | apply below_alloc | apply pw_below_drewN | apply below_drew1) | exact HB.out)) hb); clear HO214; clear HB; have HO214 := n0_; have HO217 := n1_; have HB := n2_; clear n0_ n1_ n2_; (try clear hb); (try clear hb2); (try clear hk); (try clear hi); (try clear ho0); obtain ⟨Ao8, co8, eo8⟩ := Kd.R_slice HO214.out; subst eo8; obtain ⟨Ao9, co9, eo9⟩ := Kd.R_slice HO217.out; subst eo9) | ((with_reducible refine gate_callee (f := 80) rfl ?_); refine goesL_ (some 9) rfl rfl Tryd.func80 (by kernel_rfl) rfl #[.slice Ao8 t212.length co8, .slice Ao9 t215.length co9] rfl (by (try simp only [List.map_toArray, List.map_cons, List.map_nil]); first | done | rfl | (simp only [List.length_drop, List.length_take]; rfl)) ?_; (with_reducible refine (slices_Equal_string_string.calls k _ _ t212 _ _ t215 t218 _ ?side1 ?side2 ?side3 ?side4 A5.out).mono ?_); (case side1 => repeat (first | exact (Kd.R_reads' HO214.out).2.2 | (with_reducible refine Kd.C_alloc ?_ _) | (with_reducible refine Kd.C_drewN ?_ _) | (with_reducible refine Kd.C_drew ?_))); (case side2 => exact (Kd.R_reads' HO214.out).2.1); (case side3 => repeat (first | exact (Kd.R_reads' HO217.out).2.2 | (with_reducible refine Kd.C_alloc ?_ _) | (with_reducible refine Kd.C_drewN ?_ _) | (with_reducible refine Kd.C_drew ?_))); (case side4 => exact (Kd.R_reads' HO217.out).2.1); rintro e w' ⟨rfl, ⟨nd, rfl⟩⟩; refine ⟨_, rfl, ?_⟩)); go_ret; exact ⟨by first | rfl | (simp [errW_none, errW_some] <;> rfl) | (simp [*, errW_none, errW_some] <;> rfl), by repeat (first | (with_reducible first | exact HB.out | apply below_alloc | apply pw_below_drewN | apply below_drew1) | exact HB.out)⟩
end Go.Proofs.YthffpkdadffinaaDoor.X
namespace Go.Proofs.YthffpkdadffinaaDoor.Sgf
set_option linter.unusedVariables false
set_option linter.unusedSimpArgs false
open Go.Proofs.YthffpkdadffinaaDoor.Fr (K3 T3)
open Go.Proofs.YthffpkdadffinaaDoor.Ux (Bytes one1 dc rest1 full dec)
open Go.Proofs.YthffpkdadffinaaDoor.Dc (decT)
open Go.RowKit YthffpkdadffinaaDoorW.PrintWords Hp Fm X Va Oa Vp0 Cn Sga Sgb Sgc Sgd
section
variable {w0 w w' : World} {L M : List Th}
theorem litB (W : World) (cs : Array Value) (fr : Nat × Nat) (xs : List Int) (hc : cs.toList = nums .u8 xs) (hm : xs.length ≤ 9223372036854775807) : KB.C (W.alloc (.cells cs 5 fr)) (some ⟨W.heap.size, 0, none⟩) xs.length xs :=
  rdC (lit_reads (k := .u8) (heap_alloc_new W _) hc hm)
end
theorem conv2 (W : World) (o : Obj) (C : Array Value) (n c : Nat) : (convert 23 23 (.slice (some ⟨W.heap.size + 1, 0, none⟩) n c)).run Tryd.prog ((W.alloc o).alloc (.cells C 5)) = .ok (.slice (some ⟨W.heap.size + 1, 0, none⟩) n c) ((W.alloc o).alloc (.cells C 5 (C.size, C.size + 1))) := by
  have := Lib.run_convert_bytes_const (P := Tryd.prog) (W.alloc o) 23 5 C n c Tryd.underlying23 Tryd.underlying5; rw [World.size_alloc] at this; exact this
theorem sameC (W : World) (hG : G W) : Calls Tryd.prog 40 #[.slice (some ⟨W.heap.size, 0, none⟩) 2 2, .slice (some ⟨W.heap.size + 1, 0, none⟩) 3 3] ((W.alloc (.cells #[.int .u8 195, .int .u8 169] 5 (2, 3))).alloc (.cells #[.int .u8 101, .int .u8 204, .int .u8 129] 5 (3, 4))) fun e w' => e = .returned (.bool true) ∧ Below W.heap.size W w' := by
  have b1 := below_alloc (Below.refl W.heap.size W) (.cells #[.int .u8 195, .int .u8 169] 5 (2, 3)); have b2 := below_alloc (Below.refl _ (W.alloc (.cells #[.int .u8 195, .int .u8 169] 5 (2, 3)))) (.cells #[.int .u8 101, .int .u8 204, .int .u8 129] 5 (3, 4)); have b12 := below_then b1 b1.size b2; have h2 := litB (W.alloc (.cells #[.int .u8 195, .int .u8 169] 5 (2, 3))) #[.int .u8 101, .int .u8 204, .int .u8 129] (3, 4) [101, 204, 129] rfl (by simp); rw [World.size_alloc] at h2; (refine (seg_Same.calls 40 _ 2 [195, 169] _ 3 [101, 204, 129] true _ (Kd.C_below (litB W #[.int .u8 195, .int .u8 169] (2, 3) [195, 169] rfl (by simp)) b2) (Nat.le_refl _) h2 (Nat.le_refl _) (by kernel_rfl) (hG.below b12)).mono fun e w' ⟨h1, h3⟩ => ⟨h1, ?_⟩); exact below_then b12 b12.size h3
def g1 : SG := ⟨⟨#[101, 204, 129]⟩, 0, 3⟩
def g2 : SG := ⟨⟨#[120]⟩, 3, 4⟩
def g3 : SG := ⟨⟨#[120]⟩, 0, 1⟩
theorem d1 : dc ([] ++ [101]) 0 = ([⟨101, 0, 1⟩], [], 1) := by kernel_rfl
theorem t1 : tk 8 [⟨101, 0, 1⟩] [] 0 0 = ([], [101], 0, 1, false) := by kernel_rfl
theorem d2 : dc ([] ++ [204]) 1 = ([], [204], 1) := by kernel_rfl
theorem t2 : tk 8 [] [101] 0 1 = ([], [101], 0, 1, false) := rfl
theorem d3 : dc ([204] ++ [129, 120]) 1 = ([⟨769, 1, 2⟩, ⟨120, 3, 1⟩], [], 4) := by kernel_rfl
theorem t3 : tk 8 [⟨769, 1, 2⟩, ⟨120, 3, 1⟩] [101] 0 1 = ([g1], [120], 3, 4, false) := by kernel_rfl
theorem t4 : tk 8 (rest1 [] 4) [120] 3 4 = ([], [120], 3, 4, false) := rfl
theorem f4 : fin ([], [120], 3, 4, false) = [g2] := by kernel_rfl
end Go.Proofs.YthffpkdadffinaaDoor.Sgf
namespace Go.Proofs.YthffpkdadffinaaDoor.X
set_option linter.unusedVariables false
set_option linter.unusedSimpArgs false
open Go.RowKit YthffpkdadffinaaDoorW.PrintWords
end Go.Proofs.YthffpkdadffinaaDoor.X
namespace Go.Proofs.YthffpkdadffinaaDoor.Sgr
set_option linter.unusedVariables false
set_option linter.unusedSimpArgs false
open Go.Proofs.YthffpkdadffinaaDoor.Ux (Bytes one1 dc rest1 full dec)
open Go.RowKit YthffpkdadffinaaDoorW.PrintWords Ev0 X Oa Ob Vp0 Vr Vu Sga Sgb Sgc Sgd Sgp Sgq
theorem ba_loop (b : ByteArray) : ∀ (q i : Nat) (r : List UInt8), i + q = b.size → ByteArray.toList.loop b i r = r.reverse ++ b.data.toList.drop i := by
  intro q
  induction q with
  | zero =>
    intro i r h; rw [ByteArray.toList.loop]; rw [if_neg (by omega), List.drop_eq_nil_of_le (by rw [Array.length_toList]; show b.size ≤ i; omega), List.append_nil]
  | succ q ih =>
    intro i r h; (have hi : i < b.data.toList.length := by rw [Array.length_toList]; show i < b.size; omega); rw [ByteArray.toList.loop, if_pos (by omega), ih (i + 1) _ (by omega), List.drop_eq_getElem_cons hi]
    have e : b.get! i = b.data.toList[i] := by
      rw [Array.getElem_toList]; (show b.data[i]! = _); exact getElem!_pos b.data i _
    rw [e]; simp
theorem ba_data (b : ByteArray) : b.toList = b.data.toList := by
  unfold ByteArray.toList; rw [ba_loop b b.size 0 [] (by omega)]; simp
theorem ba_list (a b : ByteArray) : a.toList = b.toList ↔ a = b := by
  rw [ba_data, ba_data]; constructor
  · intro h; cases a; cases b; exact congrArg ByteArray.mk (Array.toList_inj.1 h)
  · intro h; rw [h]
end Go.Proofs.YthffpkdadffinaaDoor.Sgr
namespace Go.Proofs.YthffpkdadffinaaDoor.Oqe
set_option linter.unusedVariables false
set_option linter.unusedSimpArgs false
open Go.Proofs.YthffpkdadffinaaDoor.Vd (decU)
open Go.RowKit YthffpkdadffinaaDoorW.PrintWords Ev0 X Va Ve Vp0 Vr Vu Na Oa Ob
theorem nrm_cut (a b : List Int) (hb : b = [] ∨ ∃ z t, flat b = z :: t ∧ cls z = 0) : nrm (a ++ b) = nrm a ++ nrm b := by
  unfold nrm; rw [flat_app]; refine ordL_cut _ _ ?_; rcases hb with rfl | ⟨z, t, h, hz⟩
  · exact .inl rfl
  · exact .inr ⟨z, t, h, hz⟩
theorem opens_cut (l : List Int) (n : Nat) (hn : n < l.length) (ho : opn l[n] = true) : nrm l = nrm (l.take n) ++ nrm (l.drop n) := by
  have h := nrm_cut (l.take n) (l.drop n) (.inr ?_)
  · rwa [List.take_append_drop] at h
  · rw [List.drop_eq_getElem_cons hn, flat_cons]; have hne := Ve.decF_ne 4 l[n]; unfold opn at ho; (have h0 : cls ((decU l[n]).getD 0 0) = 0 := by simpa using (Bool.and_eq_true_iff.1 ho).1); have e : decU l[n] = Vd.decF 4 l[n] := rfl; rw [← e] at hne
    match hd : decU l[n], hne with
    | z :: t, _ =>
      rw [hd] at h0; exact ⟨z, t ++ flat (l.drop (n + 1)), by simp, by simpa using h0⟩
end Go.Proofs.YthffpkdadffinaaDoor.Oqe
namespace Go.Proofs.YthffpkdadffinaaDoor.Sgt
set_option linter.unusedVariables false
set_option linter.unusedSimpArgs false
open Go.Proofs.YthffpkdadffinaaDoor.Ux (Bytes one1 bnd st cont dc dc_cons dc_nil dc_ind dc_rest dc_len rest1 full dec one1_width bnd_len one1_more)
open Go.Proofs.YthffpkdadffinaaDoor.Ve (opn)
open Go.Proofs.YthffpkdadffinaaDoor.Bk (ful ful_nil ful_cons)
open Go.Proofs.YthffpkdadffinaaDoor.En (enc enc_byte)
open Go.Proofs.YthffpkdadffinaaDoor.Ot (rns)
open Go.RowKit YthffpkdadffinaaDoorW.PrintWords Ev0 X Oa Ob Vp0 Vr Vu Sga Sgb Sgc Sgd Sgp Sgq Sgr
theorem ful_pos : ∀ (N : Nat) (b : List Int) (p q : Int), b.length ≤ N → (ful b p).map (·.f0) = (ful b q).map (·.f0)
  | _, [], p, q, _ => by rw [ful_nil, ful_nil]
  | 0, c :: t, p, q, h => by simp at h
  | N + 1, c :: t, p, q, h => by
    rw [ful_cons, ful_cons, List.map_cons, List.map_cons]; have := Ux.drop_lt c t; rw [ful_pos N _ _ (q + (one1 c t).2.1) (by simp only [List.length_cons] at h; omega)]
theorem rns_ful (b : List Int) (p : Int) : (ful b p).map (·.f0) = rns b := ful_pos b.length b p 0 (Nat.le_refl _)
theorem rns_nil : rns [] = [] := by rw [← rns_ful [] 0, ful_nil]; rfl
theorem rns_cons (c : Int) (t : List Int) : rns (c :: t) = (one1 c t).1 :: rns ((c :: t).drop (one1 c t).2.1.toNat) := by
  rw [← rns_ful _ 0, ful_cons, List.map_cons, rns_ful]
def Inv (b : List Int) (a e : Nat) (rs : List Int) : Prop := ∀ m, e ≤ m → rns ((b.take m).drop a) = rs ++ rns ((b.take m).drop e)
def cutT : List Int → List Int → List ByteArray
  | [], rs => [txt rs]
  | x :: t, rs => if opn x = true then txt rs :: cutT t [x] else cutT t (rs ++ [x])
def cutTS : List Int → List ByteArray
  | [] => []
  | x :: t => cutT t [x]
theorem cutT_app : ∀ (t u : List Int) (rs : List Int) (x : Int), opn x = true → cutT (t ++ x :: u) rs = cutT t rs ++ cutT u [x]
  | [], u, rs, x, h => by rw [List.nil_append]; show (if opn x = true then txt rs :: cutT u [x] else cutT u (rs ++ [x])) = _; rw [if_pos h]; rfl
  | y :: t, u, rs, x, h => by
    rw [List.cons_append, cutT, cutT]; split
    · rw [cutT_app t u _ x h]; rfl
    · rw [cutT_app t u _ x h]
theorem cutTS_app (r s : List Int) (h : ∀ x t, s = x :: t → opn x = true) : cutTS (r ++ s) = cutTS r ++ cutTS s := by
  cases s with
  | nil => simp [cutTS]
  | cons x u =>
    cases r with
    | nil => rfl
    | cons y t => exact cutT_app t u [y] x (h x u rfl)
end Go.Proofs.YthffpkdadffinaaDoor.Sgt
namespace Go.Proofs.YthffpkdadffinaaDoor.Sgu
set_option linter.unusedVariables false
set_option linter.unusedSimpArgs false
open Go.Proofs.YthffpkdadffinaaDoor.Ux (Bytes)
open Go.Proofs.YthffpkdadffinaaDoor.Ve (opn)
open Go.Proofs.YthffpkdadffinaaDoor.Ot (rns)
open Go.RowKit YthffpkdadffinaaDoorW.PrintWords Ev0 X Oa Ob Vp0 Vr Vu Sgd Sgt
theorem rns_len (b : List Int) : (rns b).length ≤ b.length := by unfold rns; rw [List.length_map]; exact Ud.full_len b
end Go.Proofs.YthffpkdadffinaaDoor.Sgu
namespace Go.Proofs.YthffpkdadffinaaDoor.X
open Go.RowKit YthffpkdadffinaaDoorW.PrintWords YthffpkdadffinaaDoorW.PrintLast YthffpkdadffinaaDoorW.PrintMore
attribute [local go_sem] max2_int min2_int max_two min_two max_three min_three max_four min_four   
set_option linter.unusedVariables false
set_option linter.unusedSimpArgs false
def tremaref03_Text.f (k : Nat) (l0 : List Int) : Option (ByteArray) := (tremaref01_Runes.f k l0).bind fun t299 => ((tremaref03_Normal.f k t299).bind fun t302 => ((tremaref01_Encode.f k t302).bind fun t305 => (some (strOfNums t305))))
theorem tremaref03_Text.mono : ∀ a0 k, LeO (tremaref03_Text.f k a0) (tremaref03_Text.f (k + 1) a0) := by
 intro a0 k; unfold tremaref03_Text.f; repeat' first | (with_reducible exact tremaref01_Encode.mono _ _) | (with_reducible exact tremaref01_Runes.mono _ _) | (with_reducible exact tremaref03_Normal.mono _ _) | (with_reducible exact LeO.refl _) | (with_reducible exact LeO.none _) | (with_reducible refine LeO.ite ?_ ?_) | (with_reducible refine LeO.bind ?_ (fun _ => ?_)) | exact tremaref01_Encode.mono _ _ | exact tremaref01_Runes.mono _ _ | exact tremaref03_Normal.mono _ _ | exact LeO.none _ | refine LeO.ite ?_ ?_ | refine LeO.bind ?_ (fun _ => ?_)
set_option maxHeartbeats 8000000 in
set_option maxRecDepth 100000 in
theorem tremaref03_Text.calls (k : Nat) (A0 : Option Addr) (c0 : Nat) (l0 : List Int) (r : ByteArray) (w : World) (hr0 : Kd.C (Kd.int .u8) w A0 l0.length l0) (hc0 : l0.length ≤ c0) (h : tremaref03_Text.f k l0 = some r) :
  Calls Tryd.prog 34 #[.slice A0 l0.length c0] w fun e w' => e = .returned (.string r) ∧ Below w.heap.size w w' := by
 have HR0 := Aside0.mk hr0; have HC0 := Aside0.mk hc0; clear hr0 hc0; have HB := Aside0.mk (Below.refl w.heap.size w); have H : ((tremaref01_Runes.f k l0).bind fun t299 => ((tremaref03_Normal.f k t299).bind fun t302 => ((tremaref01_Encode.f k t302).bind fun t305 => (some (strOfNums t305))))) = some r := h; clear h; replace H := Option.bind_eq_some_iff.mp H; obtain ⟨t299, A20, H⟩ := H; (try dsimp only at H); have A2 := Aside0.mk A20; clear A20; replace H := Option.bind_eq_some_iff.mp H; obtain ⟨t302, A30, H⟩ := H; (try dsimp only at H); have A3 := Aside0.mk A30; clear A30; replace H := Option.bind_eq_some_iff.mp H; obtain ⟨t305, A40, H⟩ := H; replace H : (some (strOfNums t305)) = some r := H; have A4 := Aside0.mk A40; clear A40; obtain rfl := Option.some.inj H; go_enter Tryd.func34, Tryd.ntmps34; go_wp2_with (first | ((with_reducible refine gate_callee (f := 36) rfl ?_); refine goesL_ (some 4) rfl rfl Tryd.func36 (by kernel_rfl) rfl #[.slice A0 l0.length c0] rfl (by (try simp only [List.map_toArray, List.map_cons, List.map_nil]); first | done | rfl | (simp only [List.length_drop, List.length_take]; rfl)) ?_; (with_reducible refine (tremaref01_Runes.calls k _ _ l0 t299 _ ?side1 ?side2 A2.out).mono ?_); (case side1 => repeat (first | exact HR0.out | (with_reducible refine Kd.C_alloc ?_ _) | (with_reducible refine Kd.C_drewN ?_ _) | (with_reducible refine Kd.C_drew ?_))); (case side2 => exact HC0.out); rintro e w5 ⟨v300, rfl, ho0, hb⟩; refine ⟨_, rfl, ?_⟩; have n0_ := Aside0.mk (Kd.R_lower ho0 (below_size (by repeat (first | (with_reducible first | exact HB.out | apply below_alloc | apply pw_below_drewN | apply below_drew1) | exact HB.out)))); have n1_ := Aside0.mk (below_step (by repeat (first | (with_reducible first | exact HB.out | apply below_alloc | apply pw_below_drewN | apply below_drew1) | exact HB.out)) hb); clear HB; have HO301 := n0_; have HB := n1_; clear n0_ n1_; (try clear hb); (try clear hb2); (try clear hk); (try clear hi); (try clear ho0); obtain ⟨Ao6, co6, eo6⟩ := Kd.R_slice HO301.out; subst eo6) | ((with_reducible refine gate_callee (f := 74) rfl ?_); refine goesL_ (some 5) rfl rfl Tryd.func74 (by kernel_rfl) rfl #[.slice Ao6 t299.length co6] rfl (by (try simp only [List.map_toArray, List.map_cons, List.map_nil]); first | done | rfl | (simp only [List.length_drop, List.length_take]; rfl)) ?_; (with_reducible refine (tremaref03_Normal.calls k _ _ t299 t302 _ ?side1 ?side2 A3.out).mono ?_); (case side1 => repeat (first | exact (Kd.R_reads' HO301.out).2.2 | (with_reducible refine Kd.C_alloc ?_ _) | (with_reducible refine Kd.C_drewN ?_ _) | (with_reducible refine Kd.C_drew ?_))); (case side2 => exact (Kd.R_reads' HO301.out).2.1); rintro e w7 ⟨v303, rfl, ho0, hb⟩; refine ⟨_, rfl, ?_⟩; have n0_ := Aside0.mk (Kd.R_elder' (by (with_reducible repeat (first | apply Kd.R_alloc | apply Kd.R_drewN | apply Kd.R_drew)); exact HO301.out) (Kd.R_base ho0) hb); have n1_ := Aside0.mk (Kd.R_lower (Kd.R_new' ho0 (Kd.R_lt (by (with_reducible repeat (first | apply Kd.R_alloc | apply Kd.R_drewN | apply Kd.R_drew)); exact HO301.out))) (below_size (by repeat (first | (with_reducible first | exact HB.out | apply below_alloc | apply pw_below_drewN | apply below_drew1) | exact HB.out)))); have n2_ := Aside0.mk (below_step (by repeat (first | (with_reducible first | exact HB.out | apply below_alloc | apply pw_below_drewN | apply below_drew1) | exact HB.out)) hb); clear HO301; clear HB; have HO301 := n0_; have HO304 := n1_; have HB := n2_; clear n0_ n1_ n2_; (try clear hb); (try clear hb2); (try clear hk); (try clear hi); (try clear ho0); obtain ⟨Ao8, co8, eo8⟩ := Kd.R_slice HO304.out; subst eo8) | ((with_reducible refine gate_callee (f := 76) rfl ?_); refine goesL_ (some 6) rfl rfl Tryd.func76 (by kernel_rfl) rfl #[.slice Ao8 t302.length co8] rfl (by (try simp only [List.map_toArray, List.map_cons, List.map_nil]); first | done | rfl | (simp only [List.length_drop, List.length_take]; rfl)) ?_; (with_reducible refine (tremaref01_Encode.calls k _ _ t302 t305 _ ?side1 ?side2 A4.out).mono ?_); (case side1 => repeat (first | exact (Kd.R_reads' HO304.out).2.2 | (with_reducible refine Kd.C_alloc ?_ _) | (with_reducible refine Kd.C_drewN ?_ _) | (with_reducible refine Kd.C_drew ?_))); (case side2 => exact (Kd.R_reads' HO304.out).2.1); rintro e w9 ⟨v306, rfl, ho0, hb⟩; refine ⟨_, rfl, ?_⟩; have n0_ := Aside0.mk (Kd.R_below (by (with_reducible repeat (first | apply Kd.R_alloc | apply Kd.R_drewN | apply Kd.R_drew)); exact HO301.out) hb); have n1_ := Aside0.mk (Kd.R_below (by (with_reducible repeat (first | apply Kd.R_alloc | apply Kd.R_drewN | apply Kd.R_drew)); exact HO304.out) hb); have n2_ := Aside0.mk (Kd.R_lower ho0 (below_size (by repeat (first | (with_reducible first | exact HB.out | apply below_alloc | apply pw_below_drewN | apply below_drew1) | exact HB.out)))); have n3_ := Aside0.mk (below_step (by repeat (first | (with_reducible first | exact HB.out | apply below_alloc | apply pw_below_drewN | apply below_drew1) | exact HB.out)) hb); clear HO301; clear HO304; clear HB; have HO301 := n0_; have HO304 := n1_; have HO307 := n2_; have HB := n3_; clear n0_ n1_ n2_ n3_; (try clear hb); (try clear hb2); (try clear hk); (try clear hi); (try clear ho0); have hcv10 := own_string (P := Tryd.prog) Tryd.underlying23 Tryd.underlying5 Tryd.underlying9 (Kd.own_of_R HO307.out))); go_ret; exact ⟨by first | rfl | (simp [errW_none, errW_some] <;> rfl) | (simp [*, errW_none, errW_some] <;> rfl), by repeat (first | (with_reducible first | exact HB.out | apply below_alloc | apply pw_below_drewN | apply below_drew1) | exact HB.out)⟩
end Go.Proofs.YthffpkdadffinaaDoor.X
namespace Go.Proofs.YthffpkdadffinaaDoor.Sgv
set_option linter.unusedVariables false
set_option linter.unusedSimpArgs false
open Go.Proofs.YthffpkdadffinaaDoor.Ux (Bytes full)
open Go.Proofs.YthffpkdadffinaaDoor.Ve (opn)
open Go.Proofs.YthffpkdadffinaaDoor.Ot (rns)
open Go.Proofs.YthffpkdadffinaaDoor.En (enc enc_byte enc_append)
open Go.RowKit YthffpkdadffinaaDoorW.PrintWords Ev0 X Oa Ob Vp0 Vr Vu Sga Sgb Sgd Sgp Sgq Sgt Sgu
def catB : List ByteArray → ByteArray
  | [] => ⟨#[]⟩
  | x :: t => x ++ catB t
theorem ba_ext {a b : ByteArray} (h : a.data.toList = b.data.toList) : a = b := by
  cases a; cases b; exact congrArg ByteArray.mk (Array.toList_inj.1 h)
theorem ba_app (a b : ByteArray) : (a ++ b).data.toList = a.data.toList ++ b.data.toList := by
  rw [ByteArray.data_append, Array.toList_append]
theorem str_app (a b : List Int) : strOfNums (a ++ b) = strOfNums a ++ strOfNums b := by
  refine ba_ext ?_; rw [ba_app, strOfNums_data, strOfNums_data, strOfNums_data, List.map_append]
theorem txt_app (a b : List Int) (x : Int) (t : List Int) (hb : b = x :: t) (ho : opn x = true) : txt (a ++ b) = txt a ++ txt b := by
  have h := Oqe.opens_cut (a ++ b) a.length (by rw [hb, List.length_append, List.length_cons]; omega) (by rw [List.getElem_append_right (Nat.le_refl _)]; simp [hb, ho]); rw [List.take_left, List.drop_left] at h; unfold txt; rw [h, enc_append, str_app]
theorem cutT_cat : ∀ (t rs : List Int), catB (cutT t rs) = txt (rs ++ t)
  | [], rs => by
    rw [List.append_nil]; refine ba_ext ?_; (show (txt rs ++ (⟨#[]⟩ : ByteArray)).data.toList = _); rw [ba_app]; simp
  | x :: t, rs => by
    rw [cutT]; split
    · rename_i h; (show txt rs ++ catB (cutT t [x]) = _); rw [cutT_cat t [x], txt_app rs (x :: t) x t rfl h]
      rfl
    · rw [cutT_cat t (rs ++ [x]), List.append_assoc]
      rfl
theorem cutTS_cat (r : List Int) : catB (cutTS r) = txt r := by
  cases r with
  | nil => rfl
  | cons x t => exact cutT_cat t [x]
theorem textEv (b : List Int) (hB : Bytes b) (hl : b.length ≤ 50000000) : Ev (fun k => tremaref03_Text.f k b) (txt (rns b)) := by
  have h1 : ∀ x ∈ rns b, I32 x := Ot.runes32 b hB; have hr := rns_len b; have n1 := nrm_len3 (rns b) h1; unfold tremaref03_Text.f; refine Ev.bind (Ot.runesEv b hB (by omega)) ?_; refine Ev.bind (refNEv _ h1 (by omega)) ?_; refine Ev.bind (Ev.of (tremaref01_Encode.mono (nrm (rns b))) (En.ref_pure (nrm (rns b)) (by omega))) ?_; exact Ev.now _
end Go.Proofs.YthffpkdadffinaaDoor.Sgv
namespace Go.Proofs.YthffpkdadffinaaDoor.Bkg
set_option linter.unusedVariables false
set_option linter.unusedSimpArgs false
open Go.RowKit YthffpkdadffinaaDoorW.PrintWords Hp Ux En Rt X
theorem vld_bad : vld 65533 = true := by decide
theorem one1_good (c : Int) (t : List Int) (hc : 0 ≤ c ∧ c ≤ 255) (hB : Bytes t) : vld (one1 c t).1 = true ∧ ((one1 c t).1 ≠ 65533 → encv (one1 c t).1 = (c :: t).take (one1 c t).2.1.toNat) := by
  unfold one1 bnd st; by_cases h1 : c < 128
  · rw [if_pos h1, if_pos h1]; simp only [cont]; refine ⟨by simp only [vld, decide_eq_true_eq]; omega, fun _ => ?_⟩; unfold encv; rw [if_pos h1]; rfl
  · rw [if_neg h1, if_neg h1]; by_cases h2 : c < 194 ∨ 244 < c
    · rw [if_pos h2]; exact ⟨vld_bad, fun h => absurd rfl h⟩
    · rw [if_neg h2]; by_cases h3 : c < 224
      · rw [if_pos h3, if_pos h3]
        cases t with
        | nil => exact ⟨vld_bad, fun h => absurd rfl h⟩
        | cons x t =>
          simp only [cont]; by_cases hx : x < 128 ∨ 191 < x
          · rw [if_pos hx]; exact ⟨vld_bad, fun h => absurd rfl h⟩
          · rw [if_neg hx]; simp only; refine ⟨by simp only [vld, decide_eq_true_eq]; omega, fun _ => ?_⟩; unfold encv; rw [if_neg (by omega), if_pos (by omega)]; (show _ = [c, x]); congr 1
            · omega
            · congr 1; omega
      · rw [if_neg h3, if_neg h3]; by_cases h4 : c < 240
        · rw [if_pos h4, if_pos h4]
          cases t with
          | nil => exact ⟨vld_bad, fun h => absurd rfl h⟩
          | cons x t =>
            simp only [cont]; by_cases hx : x < (if c = 224 then 160 else 128) ∨ (if c = 237 then 159 else 191) < x
            · rw [if_pos hx]; exact ⟨vld_bad, fun h => absurd rfl h⟩
            · rw [if_neg hx]
              cases t with
              | nil => exact ⟨vld_bad, fun h => absurd rfl h⟩
              | cons y t =>
                simp only [cont]; by_cases hy : y < 128 ∨ 191 < y
                · rw [if_pos hy]; exact ⟨vld_bad, fun h => absurd rfl h⟩
                · rw [if_neg hy]; simp only
                  have hx' : (c = 224 → 160 ≤ x) ∧ (c = 237 → x ≤ 159) ∧ 128 ≤ x ∧ x ≤ 191 := by
                    refine ⟨fun h => ?_, fun h => ?_, ?_, ?_⟩
                    · rw [if_pos h] at hx; omega
                    · rw [if_pos h] at hx; omega
                    · split at hx <;> omega
                    · split at hx <;> split at hx <;> omega
                  clear hx; refine ⟨by simp only [vld, decide_eq_true_eq]; omega, fun _ => ?_⟩; unfold encv; rw [if_neg (by omega), if_neg (by omega), if_pos (by omega)]; (show _ = [c, x, y]); congr 1
                  · omega
                  · congr 1
                    · omega
                    · congr 1; omega
        · rw [if_neg h4, if_neg h4]
          cases t with
          | nil => exact ⟨vld_bad, fun h => absurd rfl h⟩
          | cons x t =>
            simp only [cont]; by_cases hx : x < (if c = 240 then 144 else 128) ∨ (if c = 244 then 143 else 191) < x
            · rw [if_pos hx]; exact ⟨vld_bad, fun h => absurd rfl h⟩
            · rw [if_neg hx]
              cases t with
              | nil => exact ⟨vld_bad, fun h => absurd rfl h⟩
              | cons y t =>
                simp only [cont]; by_cases hy : y < 128 ∨ 191 < y
                · rw [if_pos hy]; exact ⟨vld_bad, fun h => absurd rfl h⟩
                · rw [if_neg hy]
                  cases t with
                  | nil => exact ⟨vld_bad, fun h => absurd rfl h⟩
                  | cons z t =>
                    simp only [cont]; by_cases hz : z < 128 ∨ 191 < z
                    · rw [if_pos hz]; exact ⟨vld_bad, fun h => absurd rfl h⟩
                    · rw [if_neg hz]; simp only
                      have hx' : (c = 240 → 144 ≤ x) ∧ (c = 244 → x ≤ 143) ∧ 128 ≤ x ∧ x ≤ 191 := by
                        refine ⟨fun h => ?_, fun h => ?_, ?_, ?_⟩
                        · rw [if_pos h] at hx; omega
                        · rw [if_pos h] at hx; omega
                        · split at hx <;> omega
                        · split at hx <;> split at hx <;> omega
                      clear hx; refine ⟨by simp only [vld, decide_eq_true_eq]; omega, fun _ => ?_⟩; unfold encv; rw [if_neg (by omega), if_neg (by omega), if_neg (by omega)]; (show _ = [c, x, y, z]); congr 1
                      · omega
                      · congr 1
                        · omega
                        · congr 1
                          · omega
                          · congr 1; omega
end Go.Proofs.YthffpkdadffinaaDoor.Bkg
namespace Go.Proofs.YthffpkdadffinaaDoor.Sgw
set_option linter.unusedVariables false
set_option linter.unusedSimpArgs false
open Go.Proofs.YthffpkdadffinaaDoor.Ux (Bytes full one1)
open Go.Proofs.YthffpkdadffinaaDoor.Ve (opn)
open Go.Proofs.YthffpkdadffinaaDoor.Vd (decU keys cases3)
open Go.Proofs.YthffpkdadffinaaDoor.Na (ordL ordL_mem ordL_starter)
open Go.Proofs.YthffpkdadffinaaDoor.Ot (rns)
open Go.Proofs.YthffpkdadffinaaDoor.En (enc enc_byte enc_append vld fixr)
open Go.RowKit YthffpkdadffinaaDoorW.PrintWords Ev0 X Va Oa Ob Vp0 Vr Vu Sga Sgb Sgd Sgp Sgq Sgt Sgu Sgv
def Shut (l : List Int) : Prop := ∀ x ∈ l, opn x = false
theorem dec_shut (r : Int) (hr : I32 r) (h : opn r = false) : Shut (decU r) := by
  have hb := bottom r hr; have ho := opn_first r hr; intro y hy
  cases hd : decU r with
  | nil => have := hb.lo; rw [hd] at this; simp at this
  | cons z t =>
    rw [hd] at hy ho; rcases List.mem_cons.1 hy with rfl | hy
    · rw [← h, ← ho]; rfl
    · exact hb.shut y (by rw [hd]; exact hy)
theorem flat_shut (l : List Int) (hl : ∀ x ∈ l, I32 x) (h : Shut l) : Shut (flat l) := by
  intro y hy; unfold flat at hy; obtain ⟨x, hx, hy⟩ := List.mem_flatMap.1 hy; exact dec_shut x (hl x hx) (h x hx) y hy
theorem nrm_shut (l : List Int) (hl : ∀ x ∈ l, I32 x) (h : Shut l) : Shut (nrm l) := fun y hy => flat_shut l hl h y ((ordL_mem _ _).1 hy)
theorem nrm_open (x : Int) (t : List Int) (hl : ∀ y ∈ x :: t, I32 y) (ho : opn x = true) : ∃ y u v, nrm (x :: t) = y :: ordL (u ++ v) ∧ opn y = true ∧ Shut u ∧ v = flat t := by
  have hx := hl x (List.mem_cons_self ..); have hb := bottom x hx; have hf := opn_first x hx
  cases hd : decU x with
  | nil => have := hb.lo; rw [hd] at this; simp at this
  | cons z w =>
    rw [hd] at hf; (have hz : opn z = true := by rw [← ho, ← hf]; rfl); have hpz := hb.zero z (by rw [hd]; exact List.mem_cons_self ..)
    have hc : cls z = 0 := by
      rw [opn_zero z hpz] at hz
      simpa using (Bool.and_eq_true_iff.1 hz).1
    refine ⟨z, w, flat t, ?_, hz, fun y hy => hb.shut y (by rw [hd]; exact hy), rfl⟩; unfold nrm; rw [flat_cons, hd]; have h := ordL_starter [] (w ++ flat t) hc; exact h
theorem cutT_shut : ∀ (u rs : List Int), Shut u → cutT u rs = [txt (rs ++ u)]
  | [], rs, _ => by rw [List.append_nil]; rfl
  | x :: u, rs, h => by
    rw [cutT, h x (List.mem_cons_self ..)]; simp only [Bool.false_eq_true, if_false]; rw [cutT_shut u _ (fun y hy => h y (List.mem_cons_of_mem _ hy)), List.append_assoc]
    rfl
theorem txt_nrm (l : List Int) (hl : ∀ x ∈ l, I32 x) : txt (nrm l) = txt l := by unfold txt; rw [nrm_id l hl]
theorem seg_nrm (x : Int) (t : List Int) (hl : ∀ y ∈ x :: t, I32 y) (h : Shut t) : cutTS (nrm (x :: t)) = [txt (x :: t)] := by
  have hne : nrm (x :: t) ≠ [] := by
    intro e; have h1 := nrm_len (x :: t); rw [e] at h1; exact flat_ne (x :: t) (by simp) (List.length_eq_zero_iff.1 h1.symm)
  have hsh : ∃ y u, nrm (x :: t) = y :: u ∧ Shut u := by
    by_cases ho : opn x = true
    · obtain ⟨y, u, v, e, _, hu, hv⟩ := nrm_open x t hl ho; refine ⟨y, _, e, fun z hz => ?_⟩; rcases List.mem_append.1 ((ordL_mem _ _).1 hz) with h1 | h1
      · exact hu z h1
      · rw [hv] at h1; exact flat_shut t (fun y hy => hl y (List.mem_cons_of_mem _ hy)) h z h1
    · (have ho2 : opn x = false := by simpa using ho); have hs := nrm_shut (x :: t) hl (by intro z hz; rcases List.mem_cons.1 hz with rfl | hz; (· exact ho2); (· exact h z hz))
      cases hn : nrm (x :: t) with
      | nil => exact absurd hn hne
      | cons y u => exact ⟨y, u, rfl, fun z hz => hs z (by rw [hn]; exact List.mem_cons_of_mem _ hz)⟩
  obtain ⟨y, u, e, hu⟩ := hsh; rw [e]; (show cutT u [y] = _); rw [cutT_shut u [y] hu]; (show [txt (y :: u)] = _); rw [← e, txt_nrm _ hl]
theorem cut_nrm : ∀ (t : List Int) (x : Int) (v : List Int), (∀ y ∈ (x :: v) ++ t, I32 y) → Shut v → cutTS (nrm ((x :: v) ++ t)) = cutT t (x :: v)
  | [], x, v, hl, hv => by
    rw [List.append_nil] at hl ⊢; exact seg_nrm x v hl hv
  | z :: t, x, v, hl, hv => by
    (have hl1 : ∀ y ∈ x :: v, I32 y := fun y hy => hl y (List.mem_append_left _ hy)); (have hl2 : ∀ y ∈ z :: t, I32 y := fun y hy => hl y (List.mem_append_right _ hy)); rw [cutT]; by_cases ho : opn z = true
    · rw [if_pos ho]; have h := Oqe.opens_cut ((x :: v) ++ z :: t) (x :: v).length (by rw [List.length_append, List.length_cons (a := z)]; omega) (by rw [List.getElem_append_right (Nat.le_refl _)]; simp [ho]); rw [List.take_left, List.drop_left] at h; rw [h, cutTS_app, seg_nrm x v hl1 hv]
      · have ih := cut_nrm t z [] (by simpa using hl2) (fun _ h => by cases h); simp only [List.singleton_append] at ih ⊢; rw [ih]
      · intro a b hab; obtain ⟨y, u, w, e, hy, _⟩ := nrm_open z t hl2 ho; rw [e] at hab; rw [← (List.cons.inj hab).1]; exact hy
    · (have ho2 : opn z = false := by simpa using ho); rw [if_neg ho]; (have e : (x :: v) ++ z :: t = (x :: (v ++ [z])) ++ t := by simp); rw [e] at hl ⊢; rw [cut_nrm t x (v ++ [z]) hl (by intro y hy; rcases List.mem_append.1 hy with h | h; (· exact hv y h); (· rw [List.mem_singleton.1 h]; exact ho2))]
      rfl
theorem cutTS_nrm (r : List Int) (hl : ∀ y ∈ r, I32 y) : cutTS (nrm r) = cutTS r := by
  cases r with
  | nil => rfl
  | cons x t => exact cut_nrm t x [] hl (fun _ h => by cases h)
theorem vld_keys : ∀ r ∈ keys, (decU r).all vld = true := by decide +kernel
theorem vld_dec (r : Int) (h : vld r = true) : ∀ y ∈ decU r, vld y = true := by
  rcases cases3 r with h1 | ⟨s, hs, rfl⟩ | h1
  · exact List.all_eq_true.1 (vld_keys r h1)
  · intro y hy; rw [syl_dec s hs] at hy
    have h5 : y = 4352 + ((s / 588 : Nat) : Int) ∨ y = 4449 + ((s % 588 / 28 : Nat) : Int) ∨ y = 4519 + ((s % 28 : Nat) : Int) := by
      rcases List.mem_append.1 hy with h | h
      · rcases List.mem_cons.1 h with h | h
        · exact .inl h
        · exact .inr (.inl (List.mem_singleton.1 h))
      · split at h
        · cases h
        · exact .inr (.inr (List.mem_singleton.1 h))
    unfold vld; rw [decide_eq_true_eq]; omega
  · intro y hy; rw [dec_zero r h1, List.mem_singleton] at hy; rw [hy]; exact h
theorem vld_nrm (l : List Int) (h : ∀ x ∈ l, vld x = true) : ∀ y ∈ nrm l, vld y = true := by
  intro y hy; have hy := (ordL_mem _ _).1 hy; unfold flat at hy; obtain ⟨x, hx, hy⟩ := List.mem_flatMap.1 hy; exact vld_dec x (h x hx) y hy
theorem vld_rns : ∀ (N : Nat) (b : List Int), b.length ≤ N → Bytes b → ∀ y ∈ rns b, vld y = true
  | _, [], _, _ => by rw [rns_nil]; intro y hy; cases hy
  | 0, c :: t, h, _ => by simp at h
  | N + 1, c :: t, h, hB => by
    rw [rns_cons]; intro y hy; rcases List.mem_cons.1 hy with rfl | hy
    · exact (Bkg.one1_good c t (hB c (List.mem_cons_self ..)) (fun x hx => hB x (List.mem_cons_of_mem _ hx))).1
    · have := Ux.drop_lt c t; exact vld_rns N _ (by simp only [List.length_cons] at h; omega) (fun x hx => hB x (List.mem_of_mem_drop hx)) y hy
theorem rns_enc (l : List Int) (h : ∀ x ∈ l, vld x = true) : rns (enc l) = l := by
  have := Bk.ful_enc l 0; rw [rns_ful] at this; rw [this]; (have e : ∀ x ∈ l, fixr x = x := fun x hx => by unfold fixr; rw [if_pos (h x hx)]); rw [List.map_congr_left (g := id) (by intro x hx; exact e x hx), List.map_id]
theorem r32 (a : List Int) (ha : Bytes a) : ∀ x ∈ rns a, I32 x := Ot.runes32 a ha
theorem key (a b : List Int) (ha : Bytes a) (hb : Bytes b) : cutTS (rns a) = cutTS (rns b) ↔ txt (rns a) = txt (rns b) := by
  constructor
  · intro h; rw [← cutTS_cat, ← cutTS_cat, h]
  · intro h; have h1 := Bk.str_inj (enc_byte _) (enc_byte _) h; have va := vld_nrm _ (vld_rns a.length a (Nat.le_refl _) ha); have vb := vld_nrm _ (vld_rns b.length b (Nat.le_refl _) hb); (have h2 : nrm (rns a) = nrm (rns b) := by rw [← rns_enc _ va, ← rns_enc _ vb, h1]); rw [← cutTS_nrm _ (r32 a ha), ← cutTS_nrm _ (r32 b hb), h2]
end Go.Proofs.YthffpkdadffinaaDoor.Sgw
