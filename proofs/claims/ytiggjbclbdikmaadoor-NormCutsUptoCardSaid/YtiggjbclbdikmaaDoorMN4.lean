/-
  Several texts of this claim in one: what its law's proof uses.
-/
import Derived.Test.YtiggjbclbdikmaaDoorMN0
import Derived.Test.YtiggjbclbdikmaaDoorMN3
import Derived.WalkSpells
import Derived.WalkLawsBesides
import Derived.Test.YtiggjbclbdikmaaDoorMN2
import Derived.Lib.SlBytesConst
import Derived.Test.YtiggjbclbdikmaaDoorMN1
import Derived.Test.YtiggjbclbdikmaaDoorRows
import Derived.ProofKit
import Derived.LaidMore
import Derived.OpenShut
import Derived.Stop.Joined
import Derived.Deep.Slices
import Derived.ChangeArms
import Derived.ChangeMaps
import Derived.SizedLaws
-- Written by a program of this session (xprint.py), over the kit's print.
namespace Go.Proofs.YtiggjbclbdikmaaDoor.X
open Go.RowKit Go.Proofs.YtiggjbclbdikmaaDoorW.PrintWords Go.Proofs.YtiggjbclbdikmaaDoorW.PrintLast Go.Proofs.YtiggjbclbdikmaaDoorW.PrintMore
attribute [local go_sem] max2_int min2_int max_two min_two max_three min_three max_four min_four   -- for this text's walks alone
set_option linter.unusedVariables false
set_option linter.unusedSimpArgs false

/-! ### tremaref01_Decode: function 59 -/
def tremaref01_Decode.l0 : Nat → List Int → Bool → List (S75) → Int → Option ((List (S75)))
 | 0, _, _, _, _ => none
 | k + 1, x0, x1, x5, x6 => if x6 < (x0.length : Int) then ((tremaref01_At.f k x0 x6).bind fun bt144 => (if x1 = true then (if bt144.2.2 = true then (some x5) else (if x5.length < 5864062014805 then (tremaref01_Decode.l0 k x0 x1 (x5 ++ [(⟨bt144.1, x6, bt144.2.1⟩ : S75)]) (wrap64 (x6 + bt144.2.1))) else (none))) else (if x5.length < 5864062014805 then (tremaref01_Decode.l0 k x0 x1 (x5 ++ [(⟨bt144.1, x6, bt144.2.1⟩ : S75)]) (wrap64 (x6 + bt144.2.1))) else (none)))) else (some x5)
def tremaref01_Decode.f (k : Nat) (l0 : List Int) (a1 : Bool) : Option ((List (S75))) := tremaref01_Decode.l0 k l0 a1 ([] : List (S75)) 0
theorem tremaref01_Decode.mono_l : ∀ k, (∀ y0 y1 y2 y3, LeO (tremaref01_Decode.l0 k y0 y1 y2 y3) (tremaref01_Decode.l0 (k + 1) y0 y1 y2 y3))
 | 0 => fun _ _ _ _ r h => by simp [tremaref01_Decode.l0] at h
 | k + 1 => by
  have ih0 := tremaref01_Decode.mono_l k
  ·intro y0 y1 y2 y3
   unfold tremaref01_Decode.l0
   repeat' first
   | (with_reducible exact ih0 _ _ _ _)
   | (with_reducible exact tremaref01_At.mono _ _ _)
   | (with_reducible exact LeO.refl _)
   | (with_reducible exact LeO.none _)
   | (with_reducible refine LeO.ite ?_ ?_)
   | (with_reducible refine LeO.bind ?_ (fun _ => ?_))
   | exact ih0 _ _ _ _
   | exact tremaref01_At.mono _ _ _
   | exact LeO.none _
   | refine LeO.ite ?_ ?_
   | refine LeO.bind ?_ (fun _ => ?_)
theorem tremaref01_Decode.mono : ∀ a0 a1 k, LeO (tremaref01_Decode.f k a0 a1) (tremaref01_Decode.f (k + 1) a0 a1) := by
 intro a0 a1 k
 have ih0 := tremaref01_Decode.mono_l k
 unfold tremaref01_Decode.f
 repeat' first
   | (with_reducible exact ih0 _ _ _ _)
   | (with_reducible exact tremaref01_At.mono _ _ _)
   | (with_reducible exact LeO.refl _)
   | (with_reducible exact LeO.none _)
   | (with_reducible refine LeO.ite ?_ ?_)
   | (with_reducible refine LeO.bind ?_ (fun _ => ?_))
   | exact ih0 _ _ _ _
   | exact tremaref01_At.mono _ _ _
   | exact LeO.none _
   | refine LeO.ite ?_ ?_
   | refine LeO.bind ?_ (fun _ => ?_)
set_option maxHeartbeats 8000000 in
set_option maxRecDepth 100000 in
theorem tremaref01_Decode.calls (k : Nat) (A0 : Option Addr) (c0 : Nat) (l0 : List Int) (a1 : Bool) (r : List (S75)) (w : World) (hr0 : Kd.C (Kd.int .u8) w A0 l0.length l0) (hc0 : l0.length ≤ c0) (h : tremaref01_Decode.f k l0 a1 = some r) :
  Calls Tryd.prog 59 #[.slice A0 l0.length c0, .bool a1] w fun e w' => ∃ v0_ : Value, e = .returned (v0_) ∧ Kd.R k75 75 w' w.heap.size (fun _ => True) v0_ r ∧ Below w.heap.size w w' := by
 have hu75 := Tryd.underlying75
 have HR0 := Aside0.mk hr0
 have HC0 := Aside0.mk hc0
 clear hr0 hc0
 have HB := Aside0.mk (Below.refl w.heap.size w)
 have H : (tremaref01_Decode.l0 k l0 a1 ([] : List (S75)) 0) = some r := h
 clear h
 have H' := Aside0.mk H
 clear H
 go_enter Tryd.func59, Tryd.ntmps59
 go_wp2
 go_loopg [5, 6] k (fun kq v5 v6 w' => ∃ (x5_1 : List (S75)) (x6_1 : Int), v6 = .int .i64 x6_1 ∧ Aside0 (tremaref01_Decode.l0 kq l0 a1 x5_1 x6_1 = some r) ∧ Aside0 (kq ≤ k) ∧ Aside0 (Kd.R k75 75 w' w.heap.size (fun _ => True) v5 x5_1) ∧ Aside0 (Below w.heap.size w w'))
 case atStart => exact ⟨(([] : List (S75))), (0), (by first | rfl | (simp; done) | (simp [*]; done)), H', ⟨Nat.le_refl _⟩, ⟨by first | exact Kd.R_nil _ _ _ _ _ | exact Kd.N_nil _ _ _ _ _ | exact Kd.V_nil _ _ _ _ _ | exact Kd.Q_nil _ _ _ _ _ | exact Kd.S_nil _ _ _ _ _⟩, ⟨by repeat (first | (with_reducible first | exact HB.out | apply below_alloc | apply pw_below_drewN | apply below_drew1) | exact HB.out)⟩⟩
 case round =>
  clear H'
  try clear p2
  obtain ⟨x5_1, x6_1, rfl, HA, HK1, HO_5, HB⟩ := hrel
  cases gk with
  | zero => exact absurd HA.out (by simp [tremaref01_Decode.l0])
  | succ k1 =>
   have H := HA.out
   clear HA
   simp only [tremaref01_Decode.l0] at H
   by_cases c3 : x6_1 < (l0.length : Int)
   ·rw [if_pos c3] at H
    have c3b0 : decide (x6_1 < (l0.length : Int)) = true := decide_eq_true c3
    clear c3
    replace H := Option.bind_eq_some_iff.mp H
    obtain ⟨⟨t144, t145, t146⟩, A40, H⟩ := H
    replace H : (if a1 = true then (if t146 = true then (some x5_1) else (if x5_1.length < 5864062014805 then (tremaref01_Decode.l0 k1 l0 a1 (x5_1 ++ [(⟨t144, x6_1, t145⟩ : S75)]) (wrap64 (x6_1 + t145))) else (none))) else (if x5_1.length < 5864062014805 then (tremaref01_Decode.l0 k1 l0 a1 (x5_1 ++ [(⟨t144, x6_1, t145⟩ : S75)]) (wrap64 (x6_1 + t145))) else (none))) = some r := H
    have A4 := Aside0.mk A40
    clear A40
    by_cases c5 : a1 = true
    ·subst c5
     have H1 : (if t146 = true then (some x5_1) else (if x5_1.length < 5864062014805 then (tremaref01_Decode.l0 k1 l0 true (x5_1 ++ [(⟨t144, x6_1, t145⟩ : S75)]) (wrap64 (x6_1 + t145))) else (none))) = some r := by rw [if_pos rfl] at H; exact H
     clear H
     have H := H1
     clear H1
     by_cases c6 : t146 = true
     ·subst c6
      have H1 : (some x5_1) = some r := by rw [if_pos rfl] at H; exact H
      clear H
      have H := H1
      clear H1
      obtain rfl := Option.some.inj H
      go_wp2_with (first | ((with_reducible refine gate_callee (f := 81) rfl ?_); refine goesL_ (some 17) rfl rfl Tryd.func81 (by kernel_rfl) rfl #[.slice A0 l0.length c0, .int .i64 x6_1] rfl (by (try simp only [List.map_toArray, List.map_cons, List.map_nil]); first | done | rfl | (simp only [List.length_drop, List.length_take]; rfl)) ?_; (with_reducible refine (tremaref01_At.calls k1 _ _ l0 x6_1 t144 t145 true _ ?side1 ?side2 A4.out).mono ?_); (case side1 => repeat (first | exact (Kd.C_below HR0.out HB.out) | (with_reducible refine Kd.C_alloc ?_ _) | (with_reducible refine Kd.C_drewN ?_ _) | (with_reducible refine Kd.C_drew ?_))); (case side2 => exact HC0.out); rintro e w7 ⟨rfl, hb⟩; refine ⟨_, rfl, ?_⟩; have n0_ := Aside0.mk (Kd.R_below (by (with_reducible repeat (first | apply Kd.R_alloc | apply Kd.R_drewN | apply Kd.R_drew)); exact HO_5.out) hb); have n1_ := Aside0.mk (below_step (by repeat (first | (with_reducible first | exact HB.out | apply below_alloc | apply pw_below_drewN | apply below_drew1) | exact HB.out)) hb); clear HO_5; clear HB; have HO_5 := n0_; have HB := n1_; clear n0_ n1_; (try clear hb); (try clear hb2); (try clear hk); (try clear hi)))
      go_ret
      exact ⟨_, by first | rfl | (simp [errW_none, errW_some] <;> rfl) | (simp [*, errW_none, errW_some] <;> rfl), by (with_reducible repeat (first | apply Kd.R_alloc | apply Kd.R_drewN | apply Kd.R_drew)); exact HO_5.out, by repeat (first | (with_reducible first | exact HB.out | apply below_alloc | apply pw_below_drewN | apply below_drew1) | exact HB.out)⟩
     ·replace c6 := Bool.eq_false_iff.mpr c6
      subst c6
      have H1 : (if x5_1.length < 5864062014805 then (tremaref01_Decode.l0 k1 l0 true (x5_1 ++ [(⟨t144, x6_1, t145⟩ : S75)]) (wrap64 (x6_1 + t145))) else (none)) = some r := by rw [if_neg (show ¬ (false = true) by decide)] at H; exact H
      clear H
      have H := H1
      clear H1
      by_cases c8 : x5_1.length < 5864062014805
      ·rw [if_pos c8] at H
       have LMc8 := Aside0.mk c8
       clear c8
       obtain ⟨y147, hy147⟩ : ∃ y_ : List (S75), y_ = (x5_1 ++ [(⟨t144, x6_1, t145⟩ : S75)]) := ⟨_, rfl⟩
       replace H : (tremaref01_Decode.l0 k1 l0 true y147 (wrap64 (x6_1 + t145))) = some r := by first | (rw [hy147]; with_reducible exact H) | (have H2_ := (Option.bind_some _ _).symm.trans H; rw [hy147]; with_reducible exact H2_) | (have H2_ := (Option.bind_some _ _).symm.trans H; with_reducible exact H2_) | with_reducible exact H | (rw [hy147]; exact H) | exact H
       have Ny147 := Aside0.mk hy147
       clear hy147
       have H' := Aside0.mk H
       clear H
       go_wp2_with (first | ((with_reducible refine gate_callee (f := 81) rfl ?_); refine goesL_ (some 17) rfl rfl Tryd.func81 (by kernel_rfl) rfl #[.slice A0 l0.length c0, .int .i64 x6_1] rfl (by (try simp only [List.map_toArray, List.map_cons, List.map_nil]); first | done | rfl | (simp only [List.length_drop, List.length_take]; rfl)) ?_; (with_reducible refine (tremaref01_At.calls k1 _ _ l0 x6_1 t144 t145 false _ ?side1 ?side2 A4.out).mono ?_); (case side1 => repeat (first | exact (Kd.C_below HR0.out HB.out) | (with_reducible refine Kd.C_alloc ?_ _) | (with_reducible refine Kd.C_drewN ?_ _) | (with_reducible refine Kd.C_drew ?_))); (case side2 => exact HC0.out); rintro e w9 ⟨rfl, hb⟩; refine ⟨_, rfl, ?_⟩; have n0_ := Aside0.mk (Kd.R_below (by (with_reducible repeat (first | apply Kd.R_alloc | apply Kd.R_drewN | apply Kd.R_drew)); exact HO_5.out) hb); have n1_ := Aside0.mk (below_step (by repeat (first | (with_reducible first | exact HB.out | apply below_alloc | apply pw_below_drewN | apply below_drew1) | exact HB.out)) hb); clear HO_5; clear HB; have HO_5 := n0_; have HB := n1_; clear n0_ n1_; (try clear hb); (try clear hb2); (try clear hk); (try clear hi)) | ((with_reducible refine gate_builtin (b := .append) (xs := #[.tmp 26, .tmp 31]) rfl ?_); at_builtin; refine Kd.R_append k75 (w0 := w) w.heap.size rfl (.tmp 26) (.tmp 31) 72 75 (.agg #[(.int .i32 0), (.int .i64 0), (.int .i64 0)]) 24 rfl Tryd.underlying72 info75 rfl (by decide) (by omega) u5 x5_1 (⟨t144, x6_1, t145⟩ : S75) [.int .i32 t144, .int .i64 x6_1, .int .i64 t145] (fun _ => True) (fun _ => False) rfl rfl ?aP (fun _ hk => hk.elim) ?aF ?aO ?aB ?aS ?aL ?_; (case aP => exact k75_mkM _ _ _ (⟨t144, x6_1, t145⟩ : S75)); (case aB => exact (by repeat (first | (with_reducible first | exact HB.out | apply below_alloc | apply pw_below_drewN | apply below_drew1) | exact HB.out))); (case aF => exact (fun _ _ => trivial)); (case aO => exact (by (with_reducible repeat (first | apply Kd.R_alloc | apply Kd.R_drewN | apply Kd.R_drew)); exact HO_5.out)); (case aS => exact (below_size (by repeat (first | (with_reducible first | exact HB.out | apply below_alloc | apply pw_below_drewN | apply below_drew1) | exact HB.out)))); (case aL => have := LMc8.out; omega); intro v148 w10 ho hb hg hat; rw [← Ny147.out] at ho; have n0_ := Aside0.mk (hb); have n1_ := Aside0.mk (ho); clear HB; clear HO_5; have HB := n0_; have HO149 := n1_; clear n0_ n1_; clear ho hb hg hat))
       go_roundg k1
       case measure => have := HK1.out; omega
       case rel => exact ⟨(y147), (wrap64 (x6_1 + t145)), (by first | rfl | (simp; done) | (simp [*]; done)), H', ⟨by have := HK1.out; omega⟩, ⟨by (with_reducible repeat (first | apply Kd.R_alloc | apply Kd.R_drewN | apply Kd.R_drew)); exact HO149.out⟩, ⟨by repeat (first | (with_reducible first | exact HB.out | apply below_alloc | apply pw_below_drewN | apply below_drew1) | exact HB.out)⟩⟩
      ·rw [if_neg c8] at H
       exact absurd H (by simp)
    ·replace c5 := Bool.eq_false_iff.mpr c5
     subst c5
     have H1 : (if x5_1.length < 5864062014805 then (tremaref01_Decode.l0 k1 l0 false (x5_1 ++ [(⟨t144, x6_1, t145⟩ : S75)]) (wrap64 (x6_1 + t145))) else (none)) = some r := by rw [if_neg (show ¬ (false = true) by decide)] at H; exact H
     clear H
     have H := H1
     clear H1
     by_cases c11 : x5_1.length < 5864062014805
     ·rw [if_pos c11] at H
      have LMc11 := Aside0.mk c11
      clear c11
      obtain ⟨y150, hy150⟩ : ∃ y_ : List (S75), y_ = (x5_1 ++ [(⟨t144, x6_1, t145⟩ : S75)]) := ⟨_, rfl⟩
      replace H : (tremaref01_Decode.l0 k1 l0 false y150 (wrap64 (x6_1 + t145))) = some r := by first | (rw [hy150]; with_reducible exact H) | (have H2_ := (Option.bind_some _ _).symm.trans H; rw [hy150]; with_reducible exact H2_) | (have H2_ := (Option.bind_some _ _).symm.trans H; with_reducible exact H2_) | with_reducible exact H | (rw [hy150]; exact H) | exact H
      have Ny150 := Aside0.mk hy150
      clear hy150
      have H' := Aside0.mk H
      clear H
      go_wp2_with (first | ((with_reducible refine gate_callee (f := 81) rfl ?_); refine goesL_ (some 17) rfl rfl Tryd.func81 (by kernel_rfl) rfl #[.slice A0 l0.length c0, .int .i64 x6_1] rfl (by (try simp only [List.map_toArray, List.map_cons, List.map_nil]); first | done | rfl | (simp only [List.length_drop, List.length_take]; rfl)) ?_; (with_reducible refine (tremaref01_At.calls k1 _ _ l0 x6_1 t144 t145 t146 _ ?side1 ?side2 A4.out).mono ?_); (case side1 => repeat (first | exact (Kd.C_below HR0.out HB.out) | (with_reducible refine Kd.C_alloc ?_ _) | (with_reducible refine Kd.C_drewN ?_ _) | (with_reducible refine Kd.C_drew ?_))); (case side2 => exact HC0.out); rintro e w12 ⟨rfl, hb⟩; refine ⟨_, rfl, ?_⟩; have n0_ := Aside0.mk (Kd.R_below (by (with_reducible repeat (first | apply Kd.R_alloc | apply Kd.R_drewN | apply Kd.R_drew)); exact HO_5.out) hb); have n1_ := Aside0.mk (below_step (by repeat (first | (with_reducible first | exact HB.out | apply below_alloc | apply pw_below_drewN | apply below_drew1) | exact HB.out)) hb); clear HO_5; clear HB; have HO_5 := n0_; have HB := n1_; clear n0_ n1_; (try clear hb); (try clear hb2); (try clear hk); (try clear hi)) | ((with_reducible refine gate_builtin (b := .append) (xs := #[.tmp 26, .tmp 31]) rfl ?_); at_builtin; refine Kd.R_append k75 (w0 := w) w.heap.size rfl (.tmp 26) (.tmp 31) 72 75 (.agg #[(.int .i32 0), (.int .i64 0), (.int .i64 0)]) 24 rfl Tryd.underlying72 info75 rfl (by decide) (by omega) u5 x5_1 (⟨t144, x6_1, t145⟩ : S75) [.int .i32 t144, .int .i64 x6_1, .int .i64 t145] (fun _ => True) (fun _ => False) rfl rfl ?aP (fun _ hk => hk.elim) ?aF ?aO ?aB ?aS ?aL ?_; (case aP => exact k75_mkM _ _ _ (⟨t144, x6_1, t145⟩ : S75)); (case aB => exact (by repeat (first | (with_reducible first | exact HB.out | apply below_alloc | apply pw_below_drewN | apply below_drew1) | exact HB.out))); (case aF => exact (fun _ _ => trivial)); (case aO => exact (by (with_reducible repeat (first | apply Kd.R_alloc | apply Kd.R_drewN | apply Kd.R_drew)); exact HO_5.out)); (case aS => exact (below_size (by repeat (first | (with_reducible first | exact HB.out | apply below_alloc | apply pw_below_drewN | apply below_drew1) | exact HB.out)))); (case aL => have := LMc11.out; omega); intro v151 w13 ho hb hg hat; rw [← Ny150.out] at ho; have n0_ := Aside0.mk (hb); have n1_ := Aside0.mk (ho); clear HB; clear HO_5; have HB := n0_; have HO152 := n1_; clear n0_ n1_; clear ho hb hg hat))
      go_roundg k1
      case measure => have := HK1.out; omega
      case rel => exact ⟨(y150), (wrap64 (x6_1 + t145)), (by first | rfl | (simp; done) | (simp [*]; done)), H', ⟨by have := HK1.out; omega⟩, ⟨by (with_reducible repeat (first | apply Kd.R_alloc | apply Kd.R_drewN | apply Kd.R_drew)); exact HO152.out⟩, ⟨by repeat (first | (with_reducible first | exact HB.out | apply below_alloc | apply pw_below_drewN | apply below_drew1) | exact HB.out)⟩⟩
     ·rw [if_neg c11] at H
      exact absurd H (by simp)
   ·rw [if_neg c3] at H
    have c3b0 : decide (x6_1 < (l0.length : Int)) = false := decide_eq_false c3
    clear c3
    obtain rfl := Option.some.inj H
    go_wp2
    go_ret
    exact ⟨_, by first | rfl | (simp [errW_none, errW_some] <;> rfl) | (simp [*, errW_none, errW_some] <;> rfl), by (with_reducible repeat (first | apply Kd.R_alloc | apply Kd.R_drewN | apply Kd.R_drew)); exact HO_5.out, by repeat (first | (with_reducible first | exact HB.out | apply below_alloc | apply pw_below_drewN | apply below_drew1) | exact HB.out)⟩

end Go.Proofs.YtiggjbclbdikmaaDoor.X

/-
  Reading UTF-8, plainly: what stands at the front of bytes; the program's and the reference's printed functions come to it.
-/
namespace Go.Proofs.YtiggjbclbdikmaaDoor.Ux
set_option linter.unusedVariables false
set_option linter.unusedSimpArgs false
open Go.RowKit Go.Proofs.YtiggjbclbdikmaaDoorW.PrintWords Go.Proofs.YtiggjbclbdikmaaDoor.Hp Go.Proofs.YtiggjbclbdikmaaDoor.X

/-- The bounds of the further bytes of a sequence that begins so. -/
def bnd (c : Int) : Option (List (Int × Int)) :=
  if c < 128 then some []
  else if c < 194 ∨ 244 < c then none
  else if c < 224 then some [(128, 191)]
  else if c < 240 then some [(if c = 224 then 160 else 128, if c = 237 then 159 else 191), (128, 191)]
  else some [(if c = 240 then 144 else 128, if c = 244 then 143 else 191), (128, 191), (128, 191)]
/-- The bits of the first byte. -/
def st (c : Int) : Int := if c < 128 then c else if c < 224 then c % 32 else if c < 240 then c % 16 else c % 8
/-- The further bytes: the number, the width, whether more could make it whole. -/
def cont : List (Int × Int) → List Int → Int → Int → Int × Int × Bool
  | [], _, r, i => (r, i, false)
  | _ :: _, [], _, i => (65533, i, true)
  | (lo, hi) :: bs, x :: t, r, i => if x < lo ∨ hi < x then (65533, i, false) else cont bs t (r * 64 + x % 64) (i + 1)
def one1 (c : Int) (t : List Int) : Int × Int × Bool :=
  match bnd c with
  | none => (65533, 1, false)
  | some bs => cont bs t (st c) 1

def Bytes (l : List Int) : Prop := ∀ x, x ∈ l → 0 ≤ x ∧ x ≤ 255

theorem cont_width : ∀ (bs : List (Int × Int)) (t : List Int) (r i : Int), i ≤ (cont bs t r i).2.1 ∧ (cont bs t r i).2.1 ≤ i + bs.length ∧ (cont bs t r i).2.1 ≤ i + t.length
  | [], t, r, i => by simp [cont]; omega
  | b :: bs, [], r, i => by simp [cont]; omega
  | (lo, hi) :: bs, x :: t, r, i => by
    simp only [cont]
    split
    · simp; omega
    · have := cont_width bs t (r * 64 + x % 64) (i + 1)
      simp only [List.length_cons]
      omega
theorem bnd_len {c : Int} {bs : List (Int × Int)} (h : bnd c = some bs) : bs.length ≤ 3 := by
  unfold bnd at h
  split at h
  · cases h; decide
  · split at h
    · cases h
    · split at h
      · cases h; simp
      · split at h
        · cases h; simp
        · cases h; simp
theorem one1_width (c : Int) (t : List Int) : 1 ≤ (one1 c t).2.1 ∧ (one1 c t).2.1 ≤ 4 ∧ (one1 c t).2.1 ≤ 1 + t.length := by
  unfold one1
  cases h : bnd c with
  | none => simp; omega
  | some bs =>
    have h1 := cont_width bs t (st c) 1
    have h2 := bnd_len h
    simp only
    omega

/-! the program's reading -/
theorem rd_at (l : List Int) (i : Nat) (h : i < l.length) : rd l (i : Int) = l[i] := by simp [rd, List.getD_eq_getElem?_getD, h]

theorem step_r (r x : Int) (h0 : 0 ≤ r) (hr : (r + 1) * 64 ≤ 2097152) (hx : 0 ≤ x ∧ x ≤ 255) : bits .or .i32 (wrap32 (r * 64)) (wrap32 (bits .and .u8 x 63)) = r * 64 + x % 64 := by
  have ea : wrap32 (r * 64) = r * 64 := by unfold wrap32; omega
  have eb : wrap32 (bits .and .u8 x 63) = x % 64 := by rw [u8_and63 x hx.1 (by omega)]; unfold wrap32; omega
  rw [ea, eb]
  exact i32_or6 (r * 64) (x % 64) (by omega) (by omega) (by omega) (by omega) (by omega)
theorem step_p {r x : Int} {p : Nat} (h0 : 0 ≤ r) (hp : 1 ≤ p) (hr : (r + 1) * (64 * p : Nat) ≤ 2097152) : (r + 1) * 64 ≤ 2097152 ∧ (r * 64 + x % 64 + 1) * (p : Int) ≤ 2097152 := by
  have e : ((64 * p : Nat) : Int) = 64 * (p : Int) := by push_cast; rfl
  rw [e, ← Int.mul_assoc] at hr
  have h1 : (r + 1) * 64 * 1 ≤ (r + 1) * 64 * (p : Int) := Int.mul_le_mul_of_nonneg_left (by omega) (by omega)
  have h2 : (r * 64 + x % 64 + 1) * (p : Int) ≤ (r + 1) * 64 * (p : Int) := Int.mul_le_mul_of_nonneg_right (by omega) (by omega)
  exact ⟨by omega, Int.le_trans h2 hr⟩

theorem loop_cont (l : List Int) (hb : Bytes l) (hl : l.length ≤ 140737488355328) : ∀ (bs : List (Int × Int)) (k i : Nat) (r lo hi : Int), (∀ b, b ∈ bs.tail → b = (128, 191)) → (∀ b, bs.head? = some b → b = (lo, hi)) → bs.length < k → 0 ≤ r → (r + 1) * (64 ^ bs.length : Nat) ≤ 2097152 → i ≤ l.length →
    utf_one.l0 k l r ((i : Int) + bs.length) lo hi i = some (cont bs (l.drop i) r i)
  | [], k, i, r, lo, hi, _, _, hk, _, _, _ => by
    obtain ⟨k, rfl⟩ : ∃ m, k = m + 1 := ⟨k - 1, by omega⟩
    simp only [utf_one.l0, List.length_nil]
    rw [if_neg (by omega)]
    simp [cont]
  | (lo', hi') :: bs, k, i, r, lo, hi, ht, hh, hk, h0, hr, hi1 => by
    obtain ⟨k, rfl⟩ : ∃ m, k = m + 1 := ⟨k - 1, by omega⟩
    have e := hh _ rfl
    injection e with e1 e2
    subst e1
    subst e2
    simp only [List.length_cons] at hk hr ⊢
    simp only [utf_one.l0]
    rw [if_pos (by omega)]
    by_cases he : i = l.length
    · rw [if_pos (by omega), List.drop_eq_nil_of_le (by omega)]
      simp [cont]
    · have hlt : i < l.length := by omega
      rw [if_neg (by omega), if_pos (by omega), if_pos (by omega), rd_at l i hlt, List.drop_eq_getElem_cons hlt]
      have hx := hb l[i] (List.getElem_mem hlt)
      obtain ⟨x, hxe⟩ : ∃ x, x = l[i] := ⟨_, rfl⟩
      rw [← hxe] at hx ⊢
      simp only [cont]
      by_cases h1 : x < lo'
      · rw [if_pos h1, if_pos (.inl h1)]
      · rw [if_neg h1]
        by_cases h2 : x > hi'
        · rw [if_pos h2, if_pos (.inr h2)]
        · rw [if_neg h2, if_neg (by omega)]
          have hp := step_p (x := x) h0 (Nat.one_le_pow bs.length 64 (by omega)) (by rw [Nat.pow_succ, Nat.mul_comm] at hr; exact hr)
          have ew : wrap64 ((i : Int) + 1) = ((i + 1 : Nat) : Int) := by clear hr hp; unfold wrap64; omega
          have ei : ((i : Int) + ((bs.length + 1 : Nat) : Int)) = (((i + 1 : Nat) : Int) + (bs.length : Int)) := by clear hr hp; omega
          rw [step_r r x h0 hp.1 hx, ew, ei]
          have h0' : 0 ≤ r * 64 + x % 64 := by clear hr hp; omega
          have ih := loop_cont l hb hl bs k (i + 1) (r * 64 + x % 64) 128 191 (fun b hb => ht b (List.mem_of_mem_tail hb)) (fun b hb2 => ht b (List.mem_of_mem_head? hb2)) (by clear hr hp; omega) h0' hp.2 (by clear hr hp; omega)
          rw [ih]
          push_cast
          rfl

theorem lead_some (c : Int) (h : 0 ≤ c ∧ c ≤ 255) : ∃ lo hi, utf_lead.f 8 c = some ((match bnd c with | none => 0 | some bs => (bs.length : Int) + 1), (match bnd c with | none => 0 | some _ => st c), lo, hi) ∧ ∀ b, (bnd c).bind List.head? = some b → b = (lo, hi) := by
  unfold utf_lead.f bnd st
  by_cases h1 : c < 128
  · simp only [if_pos h1]
    refine ⟨128, 191, ?_, by simp⟩
    have : wrap32 c = c := by unfold wrap32; omega
    simp [this]
  · simp only [if_neg h1]
    by_cases h2 : c < 194
    · simp only [if_pos h2, if_pos (show c < 194 ∨ 244 < c from .inl h2), utf_lead.j0, if_true]
      exact ⟨_, _, rfl, by simp⟩
    · simp only [if_neg h2]
      by_cases h3 : c > 244
      · simp only [if_pos (show c < 194 ∨ 244 < c from .inr h3), decide_eq_true h3, utf_lead.j0, if_true]
        exact ⟨_, _, rfl, by simp⟩
      · simp only [if_neg (show ¬ (c < 194 ∨ 244 < c) by omega), decide_eq_false h3, utf_lead.j0, Bool.false_eq_true, if_false]
        have e31 : wrap32 (bits .and .u8 c 31) = c % 32 := by rw [u8_and31 c h.1 (by omega)]; unfold wrap32; omega
        have e15 : wrap32 (bits .and .u8 c 15) = c % 16 := by rw [u8_and15 c h.1 (by omega)]; unfold wrap32; omega
        have e7 : wrap32 (bits .and .u8 c 7) = c % 8 := by rw [u8_and7 c h.1 (by omega)]; unfold wrap32; omega
        rw [e31, e15, e7]
        by_cases h4 : c < 224
        · simp only [if_pos h4]
          exact ⟨_, _, rfl, by simp⟩
        · simp only [if_neg h4]
          by_cases h5 : c < 240
          · simp only [if_pos h5]
            by_cases h6 : c = 224
            · simp only [if_pos h6]
              exact ⟨_, _, rfl, by subst h6; simp⟩
            · simp only [if_neg h6]
              by_cases h7 : c = 237
              · simp only [if_pos h7]
                exact ⟨_, _, rfl, by subst h7; simp⟩
              · simp only [if_neg h7]
                exact ⟨_, _, rfl, by simp⟩
          · simp only [if_neg h5]
            by_cases h6 : c = 240
            · simp only [if_pos h6]
              exact ⟨_, _, rfl, by subst h6; simp⟩
            · simp only [if_neg h6]
              by_cases h7 : c = 244
              · simp only [if_pos h7]
                exact ⟨_, _, rfl, by subst h7; simp⟩
              · simp only [if_neg h7]
                exact ⟨_, _, rfl, by simp⟩

theorem bnd_tail {c : Int} {bs : List (Int × Int)} (h : bnd c = some bs) : ∀ b, b ∈ bs.tail → b = (128, 191) := by
  unfold bnd at h
  split at h
  · cases h; simp
  · split at h
    · cases h
    · split at h
      · cases h; simp
      · split at h
        · cases h; simp
        · cases h; simp
theorem st_bound {c : Int} {bs : List (Int × Int)} (hc : 0 ≤ c ∧ c ≤ 255) (h : bnd c = some bs) : 0 ≤ st c ∧ (st c + 1) * (64 ^ bs.length : Nat) ≤ 2097152 := by
  unfold bnd at h
  unfold st
  split at h
  · rename_i h1; cases h; rw [if_pos h1]; simp; omega
  · rename_i h1
    rw [if_neg h1]
    split at h
    · cases h
    · split at h
      · rename_i h2; cases h; rw [if_pos h2]; simp; omega
      · rename_i h2
        rw [if_neg h2]
        split at h
        · rename_i h3; cases h; rw [if_pos h3]; simp; omega
        · rename_i h3; cases h; rw [if_neg h3]; simp; omega

theorem one_pure (c : Int) (t : List Int) (hb : Bytes (c :: t)) (hl : (c :: t).length ≤ 140737488355328) : utf_one.f 8 (c :: t) = some (one1 c t) := by
  have hc := hb c List.mem_cons_self
  obtain ⟨lo, hi, hlead, hhead⟩ := lead_some c hc
  unfold utf_one.f
  rw [if_pos (by simp), show rd (c :: t) 0 = c from rfl, hlead]
  simp only [Option.bind_some, one1]
  cases h : bnd c with
  | none => simp
  | some bs =>
    simp only
    rw [if_neg (by omega)]
    have := loop_cont (c :: t) hb hl bs 8 1 (st c) lo hi (bnd_tail h) (fun b hb2 => hhead b (by rw [h]; exact hb2)) (by have := bnd_len h; omega) (st_bound hc h).1 (st_bound hc h).2 (by simp)
    rw [show (bs.length : Int) + 1 = ((1 : Nat) : Int) + bs.length by omega]
    simpa using this
end Go.Proofs.YtiggjbclbdikmaaDoor.Ux

/-
  The reference's reading (tremaref01.At, Decode), plainly.
-/
namespace Go.Proofs.YtiggjbclbdikmaaDoor.Ux
set_option linter.unusedVariables false
set_option linter.unusedSimpArgs false
open Go.RowKit Go.Proofs.YtiggjbclbdikmaaDoorW.PrintWords Go.Proofs.YtiggjbclbdikmaaDoor.Hp Go.Proofs.YtiggjbclbdikmaaDoor.X

def flat : List (Int × Int) → List Int
  | [] => []
  | (a, b) :: l => a :: b :: flat l
theorem flat_len : ∀ bs, (flat bs).length = 2 * bs.length
  | [] => rfl
  | (a, b) :: l => by simp [flat, flat_len l]; omega
theorem flat_get : ∀ (bs : List (Int × Int)) (j : Nat) (h : j < bs.length), (flat bs).getD (2 * j) 0 = bs[j].1 ∧ (flat bs).getD (2 * j + 1) 0 = bs[j].2
  | (a, b) :: l, 0, _ => by simp [flat]
  | (a, b) :: l, j + 1, h => by
    have := flat_get l j (by simpa using h)
    rw [show 2 * (j + 1) = 2 * j + 2 by omega, show 2 * j + 2 + 1 = 2 * j + 1 + 2 by omega]
    simpa [flat, List.getD_eq_getElem?_getD] using this

theorem row_some (c : Int) (h : 0 ≤ c ∧ c ≤ 255) : tremaref01_row.f 8 c = some (match bnd c with | none => ([], false) | some bs => (flat bs, true)) := by
  unfold tremaref01_row.f bnd
  by_cases h1 : c < 128
  · rw [if_pos (by omega), if_pos h1]; rfl
  · rw [if_neg (by omega), if_neg h1]
    by_cases h2 : c ≥ 194
    · rw [if_pos h2]
      by_cases h3 : c < 224
      · rw [if_neg (by omega), if_pos h3, decide_eq_true (show c ≤ 223 by omega)]
        simp [tremaref01_row.j0, flat]
      · rw [decide_eq_false (show ¬ c ≤ 223 by omega)]
        simp only [tremaref01_row.j0, Bool.false_eq_true, if_false]
        by_cases h4 : c = 224
        · subst h4; rfl
        · rw [if_neg h4]
          by_cases h5 : c = 237
          · subst h5; rfl
          · rw [if_neg h5, if_pos (by omega)]
            by_cases h6 : c < 240
            · rw [decide_eq_true (show c ≤ 239 by omega), if_neg (by omega), if_neg h3, if_pos h6]
              simp [tremaref01_row.j1, flat, h4, h5]
            · rw [decide_eq_false (show ¬ c ≤ 239 by omega)]
              simp only [tremaref01_row.j1, Bool.false_eq_true, if_false]
              by_cases h7 : c = 240
              · subst h7; rfl
              · rw [if_neg h7, if_pos (by omega)]
                by_cases h8 : c ≤ 243
                · rw [decide_eq_true h8, if_neg (by omega), if_neg h3, if_neg h6]
                  simp [tremaref01_row.j2, flat, h7, show ¬ c = 244 by omega]
                · rw [decide_eq_false h8]
                  simp only [tremaref01_row.j2, Bool.false_eq_true, if_false]
                  by_cases h9 : c = 244
                  · subst h9; rfl
                  · rw [if_neg h9, if_pos (by omega)]
    · rw [if_neg h2, if_pos (by omega)]
      simp only [tremaref01_row.j0, Bool.false_eq_true, if_false]
      rw [if_neg (by omega), if_neg (by omega), if_neg (by omega)]
      simp only [tremaref01_row.j1, Bool.false_eq_true, if_false]
      rw [if_neg (by omega), if_neg (by omega)]
      simp only [tremaref01_row.j2, Bool.false_eq_true, if_false]
      rw [if_neg (by omega)]

/-- How many of the further bytes fit. -/
def mt : List (Int × Int) → List Int → Nat
  | [], _ => 0
  | _ :: _, [] => 0
  | (lo, hi) :: bs, x :: t => if x < lo ∨ hi < x then 0 else mt bs t + 1
def fold (r : Int) (l : List Int) : Int := l.foldl (fun r x => r * 64 + x % 64) r
theorem mt_le : ∀ (bs : List (Int × Int)) (t : List Int), mt bs t ≤ bs.length ∧ mt bs t ≤ t.length
  | [], t => by simp [mt]
  | _ :: _, [] => by simp [mt]
  | (lo, hi) :: bs, x :: t => by
    have := mt_le bs t
    simp only [mt]
    split <;> simp <;> omega
theorem cont_mt : ∀ (bs : List (Int × Int)) (t : List Int) (r i : Int), cont bs t r i = if mt bs t = bs.length then (fold r (t.take bs.length), i + bs.length, false) else (65533, i + mt bs t, decide (mt bs t = t.length))
  | [], t, r, i => by simp [cont, mt, fold]
  | b :: bs, [], r, i => by simp [cont, mt]
  | (lo, hi) :: bs, x :: t, r, i => by
    simp only [cont, mt]
    split
    · simp
    · rw [cont_mt bs t]
      simp only [List.length_cons, Nat.add_right_cancel_iff]
      split
      · simp only [List.take_succ_cons, fold, List.foldl_cons]
        congr 2
        push_cast; omega
      · congr 2
        · push_cast; omega

theorem step_r2 (r x : Int) (h0 : 0 ≤ r) (hr : (r + 1) * 64 ≤ 2097152) (hx : 0 ≤ x ∧ x ≤ 255) : wrap32 ((wrap32 (r * 64)) + (Int.tmod (wrap32 x) 64)) = r * 64 + x % 64 := by
  have e1 : wrap32 (r * 64) = r * 64 := by unfold wrap32; omega
  have e2 : wrap32 x = x := by unfold wrap32; omega
  rw [e1, e2, Int.tmod_eq_emod_of_nonneg hx.1]
  unfold wrap32
  omega
theorem l1_step (l : List Int) (hl : l.length ≤ 140737488355328) (at_ n j k : Nat) (r : Int) (h1 : j < n) (hlt : at_ + j < l.length) (x : Int) (hxe : x = l[at_ + j]) (hx : 0 ≤ x ∧ x ≤ 255) (h0 : 0 ≤ r) (hr : (r + 1) * 64 ≤ 2097152) :
    tremaref01_At.l1 (k + 1) l at_ (n : Int) r j = tremaref01_At.l1 k l at_ (n : Int) (r * 64 + x % 64) ((j + 1 : Nat) : Int) := by
  have ea : wrap64 ((at_ : Int) + j) = ((at_ + j : Nat) : Int) := by unfold wrap64; omega
  have ew : wrap64 ((j : Int) + 1) = ((j + 1 : Nat) : Int) := by unfold wrap64; omega
  simp only [tremaref01_At.l1]
  rw [if_pos (by omega), ea, if_pos (by omega), if_pos (by omega), rd_at l _ hlt, ew, ← hxe, step_r2 r x h0 hr hx]
theorem fold_cons (r x : Int) (t : List Int) : fold r (x :: t) = fold (r * 64 + x % 64) t := rfl
theorem l1_pure (l : List Int) (hb : Bytes l) (hl : l.length ≤ 140737488355328) (at_ : Nat) (n : Nat) (hn : n ≤ 8) (han : at_ + n ≤ l.length) : ∀ (d j k : Nat) (r : Int), n - j = d → j ≤ n → d < k → 0 ≤ r → (r + 1) * (64 ^ d : Nat) ≤ 2097152 →
    tremaref01_At.l1 k l at_ (n : Int) r j = some (fold r ((l.drop (at_ + j)).take d), (n : Int), false) := by
  intro d
  induction d with
  | zero =>
    intro j k r hd hj hk _ _
    obtain ⟨k, rfl⟩ : ∃ m, k = m + 1 := ⟨k - 1, by omega⟩
    simp only [tremaref01_At.l1]
    rw [if_neg (by omega)]
    simp [fold]
  | succ d ih =>
    intro j k r hd hj hk h0 hr
    obtain ⟨k, rfl⟩ : ∃ m, k = m + 1 := ⟨k - 1, by clear hr; omega⟩
    have hlt : at_ + j < l.length := by clear hr; omega
    have hx := hb l[at_ + j] (List.getElem_mem hlt)
    have hp := step_p (x := l[at_ + j]) h0 (Nat.one_le_pow d 64 (by decide)) (by rw [Nat.pow_succ, Nat.mul_comm] at hr; exact hr)
    clear hr
    have h5 : 0 ≤ r * 64 + l[at_ + j] % 64 := by clear hp ih; omega
    rw [l1_step l hl at_ n j k r (by clear hp ih; omega) hlt _ rfl hx h0 hp.1, ih (j + 1) k _ (by clear hp ih; omega) (by clear hp ih; omega) (by clear hp ih; omega) h5 hp.2, List.drop_eq_getElem_cons hlt, List.take_succ_cons, fold_cons]
    rfl

def fin (l : List Int) (at_ : Nat) (c : Int) (bs : List (Int × Int)) (m : Nat) : Int × Int × Bool :=
  if m < bs.length then (65533, 1 + (m : Int), decide (at_ + 1 + m = l.length)) else (fold (st c) ((l.drop (at_ + 1)).take m), 1 + (m : Int), false)

theorem j1_pure (l : List Int) (hb : Bytes l) (hl : l.length ≤ 140737488355328) (at_ : Nat) (hat : at_ < l.length) (bs : List (Int × Int)) (hbs : bnd l[at_] = some bs) (m k : Nat) (hm : m ≤ bs.length) (hm2 : at_ + 1 + m ≤ l.length) (hk : m + 3 < k) :
    tremaref01_At.j1 k l at_ (flat bs) (1 + (m : Int)) = some (fin l at_ l[at_] bs m) := by
  obtain ⟨k, rfl⟩ : ∃ q, k = q + 1 := ⟨k - 1, by omega⟩
  have hc := hb l[at_] (List.getElem_mem hat)
  have hs := st_bound hc hbs
  have h3 := bnd_len hbs
  have ef : wrap64 (((flat bs).length : Int) / 2) = bs.length := by rw [flat_len]; unfold wrap64; omega
  simp only [tremaref01_At.j1]
  rw [ef]
  unfold fin
  by_cases h1 : m < bs.length
  · rw [if_pos (by omega), if_pos h1]
    have ea : wrap64 ((at_ : Int) + (1 + m)) = ((at_ + 1 + m : Nat) : Int) := by unfold wrap64; omega
    rw [ea]
    congr 3
    rw [Bool.eq_iff_iff]
    simp only [beq_iff_eq, decide_eq_true_eq]
    omega
  · obtain rfl : m = bs.length := by omega
    rw [if_neg (by omega), if_neg h1]
    have hw : wrap32 l[at_] = l[at_] := by clear hs; unfold wrap32; omega
    by_cases h0 : bs.length = 0
    · rw [if_pos (by omega), if_pos (by omega), if_pos (by omega), rd_at l at_ hat, hw, h0]
      have : st l[at_] = l[at_] := by
        unfold bnd at hbs
        unfold st
        split at hbs
        · rename_i h; rw [if_pos h]
        · split at hbs
          · cases hbs
          · split at hbs
            · cases hbs; simp at h0
            · split at hbs
              · cases hbs; simp at h0
              · cases hbs; simp at h0
      simp [fold, this]
    · rw [if_neg (by omega), if_pos (by omega), if_pos (by omega)]
      have e7 : wrap64 (7 - (1 + (bs.length : Int))) = 6 - bs.length := by clear hs; unfold wrap64; omega
      rw [e7, if_pos (by omega), rd_at l at_ hat, hw]
      have hsh : (shl .i32 1 (6 - (bs.length : Int))) ≠ 0 ∧ Int.tmod l[at_] (shl .i32 1 (6 - (bs.length : Int))) = st l[at_] := by
        unfold bnd at hbs
        unfold st
        split at hbs
        · cases hbs; simp at h0
        · rename_i g1
          rw [if_neg g1]
          split at hbs
          · cases hbs
          · split at hbs
            · rename_i g3; cases hbs
              rw [if_pos g3]
              exact ⟨by decide, by rw [show shl .i32 1 (6 - (([(128, 191)] : List (Int × Int)).length : Int)) = 32 by decide, Int.tmod_eq_emod_of_nonneg hc.1]⟩
            · rename_i g3
              rw [if_neg g3]
              split at hbs
              · rename_i g4; cases hbs
                rw [if_pos g4]
                simp only [List.length_cons, List.length_nil]
                exact ⟨by decide, by rw [show shl .i32 1 (6 - ((0 + 1 + 1 : Nat) : Int)) = 16 by decide, Int.tmod_eq_emod_of_nonneg hc.1]⟩
              · rename_i g4; cases hbs
                rw [if_neg g4]
                simp only [List.length_cons, List.length_nil]
                exact ⟨by decide, by rw [show shl .i32 1 (6 - ((0 + 1 + 1 + 1 : Nat) : Int)) = 8 by decide, Int.tmod_eq_emod_of_nonneg hc.1]⟩
      rw [if_neg hsh.1, hsh.2]
      have := l1_pure l hb hl at_ (1 + bs.length) (by clear hs; omega) (by clear hs; omega) bs.length 1 k (st l[at_]) (by clear hs; omega) (by clear hs; omega) (by clear hs; omega) hs.1 hs.2
      rw [show ((1 : Int) + (bs.length : Int)) = ((1 + bs.length : Nat) : Int) by push_cast; rfl]
      exact this


theorem ef_len {bs : List (Int × Int)} (h3 : bs.length ≤ 3) : wrap64 (((flat bs).length : Int) / 2) = bs.length := by
  rw [flat_len]; unfold wrap64; omega
theorem rd_flat {bs : List (Int × Int)} {j : Nat} (hj : j < bs.length) : rd (flat bs) ((2 * j : Nat) : Int) = bs[j].1 ∧ rd (flat bs) ((2 * j + 1 : Nat) : Int) = bs[j].2 := by
  have hg := flat_get bs j hj
  simp only [rd, Int.toNat_natCast]
  exact hg
theorem l0_stop (l : List Int) (at_ k : Nat) (bs : List (Int × Int)) (h3 : bs.length ≤ 3) : tremaref01_At.l0 (k + 1) l at_ (flat bs) (1 + (bs.length : Int)) = tremaref01_At.j1 k l at_ (flat bs) (1 + (bs.length : Int)) := by
  simp only [tremaref01_At.l0]
  rw [ef_len h3, if_neg (by omega)]
theorem l0_end (l : List Int) (hl : l.length ≤ 140737488355328) (at_ k j : Nat) (bs : List (Int × Int)) (h3 : bs.length ≤ 3) (hj : j < bs.length) (he : at_ + 1 + j = l.length) : tremaref01_At.l0 (k + 1) l at_ (flat bs) (1 + (j : Int)) = tremaref01_At.j1 k l at_ (flat bs) (1 + (j : Int)) := by
  have ea : wrap64 ((at_ : Int) + (1 + j)) = ((at_ + 1 + j : Nat) : Int) := by unfold wrap64; omega
  simp only [tremaref01_At.l0]
  rw [ef_len h3, if_pos (by omega), ea, if_neg (by omega)]
theorem l0_step (l : List Int) (hl : l.length ≤ 140737488355328) (at_ k j : Nat) (bs : List (Int × Int)) (h3 : bs.length ≤ 3) (hj : j < bs.length) (he : at_ + 1 + j < l.length) :
    tremaref01_At.l0 (k + 1) l at_ (flat bs) (1 + (j : Int)) = if l[at_ + 1 + j] < bs[j].1 ∨ bs[j].2 < l[at_ + 1 + j] then tremaref01_At.j1 k l at_ (flat bs) (1 + (j : Int)) else tremaref01_At.l0 k l at_ (flat bs) (1 + ((j + 1 : Nat) : Int)) := by
  have ea : wrap64 ((at_ : Int) + (1 + j)) = ((at_ + 1 + j : Nat) : Int) := by unfold wrap64; omega
  have e2 : wrap64 ((wrap64 (2 * (1 + (j : Int)))) - 2) = ((2 * j : Nat) : Int) := by unfold wrap64; omega
  have e3 : wrap64 ((wrap64 (2 * (1 + (j : Int)))) - 1) = ((2 * j + 1 : Nat) : Int) := by unfold wrap64; omega
  have ew : wrap64 ((1 + (j : Int)) + 1) = 1 + ((j + 1 : Nat) : Int) := by unfold wrap64; omega
  have hf := flat_len bs
  simp only [tremaref01_At.l0]
  rw [ef_len h3, if_pos (by omega), ea, e2, e3, ew, if_pos (by omega), if_pos (by omega), if_pos (by omega), if_pos (by omega), rd_at l _ he, (rd_flat hj).1, (rd_flat hj).2]
  by_cases h1 : l[at_ + 1 + j] ≥ bs[j].1
  · rw [if_pos h1, if_pos (by omega), if_pos (by omega)]
    by_cases h2 : l[at_ + 1 + j] ≤ bs[j].2
    · rw [if_pos h2, if_neg (by omega)]
    · rw [if_neg h2, if_pos (by omega)]
  · rw [if_neg h1, if_pos (by omega)]

theorem l0_pure (l : List Int) (hb : Bytes l) (hl : l.length ≤ 140737488355328) (at_ : Nat) (hat : at_ < l.length) (bs : List (Int × Int)) (hbs : bnd l[at_] = some bs) : ∀ (d j k : Nat), bs.length - j = d → j ≤ bs.length → at_ + 1 + j ≤ l.length → bs.length + d + 6 < k →
    tremaref01_At.l0 k l at_ (flat bs) (1 + (j : Int)) = some (fin l at_ l[at_] bs (j + mt (bs.drop j) (l.drop (at_ + 1 + j)))) := by
  have h3 := bnd_len hbs
  intro d
  induction d with
  | zero =>
    intro j k hd hj hj2 hk
    obtain ⟨k, rfl⟩ : ∃ q, k = q + 1 := ⟨k - 1, by omega⟩
    obtain rfl : j = bs.length := by omega
    rw [l0_stop l at_ k bs h3, j1_pure l hb hl at_ hat bs hbs bs.length k (Nat.le_refl _) hj2 (by omega), List.drop_length]
    rfl
  | succ d ih =>
    intro j k hd hj hj2 hk
    obtain ⟨k, rfl⟩ : ∃ q, k = q + 1 := ⟨k - 1, by omega⟩
    have hjl : j < bs.length := by omega
    have hj1 := j1_pure l hb hl at_ hat bs hbs j k hj hj2 (by omega)
    by_cases he : at_ + 1 + j < l.length
    · have em : mt (bs.drop j) (l.drop (at_ + 1 + j)) = if l[at_ + 1 + j] < bs[j].1 ∨ bs[j].2 < l[at_ + 1 + j] then 0 else mt (bs.drop (j + 1)) (l.drop (at_ + 1 + (j + 1))) + 1 := by
        rw [List.drop_eq_getElem_cons hjl, List.drop_eq_getElem_cons he]
        rfl
      rw [l0_step l hl at_ k j bs h3 hjl he, em]
      by_cases hc : l[at_ + 1 + j] < bs[j].1 ∨ bs[j].2 < l[at_ + 1 + j]
      · rw [if_pos hc, if_pos hc, hj1]
        rfl
      · rw [if_neg hc, if_neg hc, ih (j + 1) k (by omega) (by omega) (by omega) (by omega)]
        rw [show j + 1 + mt (bs.drop (j + 1)) (l.drop (at_ + 1 + (j + 1))) = j + (mt (bs.drop (j + 1)) (l.drop (at_ + 1 + (j + 1))) + 1) from by omega]
    · rw [l0_end l hl at_ k j bs h3 hjl (by omega), hj1, List.drop_eq_nil_of_le (i := at_ + 1 + j) (by omega), List.drop_eq_getElem_cons hjl]
      rfl

theorem at_pure (l : List Int) (hb : Bytes l) (hl : l.length ≤ 140737488355328) (at_ : Nat) (hat : at_ < l.length) : tremaref01_At.f 20 l at_ = some (one1 l[at_] (l.drop (at_ + 1))) := by
  have hc := hb l[at_] (List.getElem_mem hat)
  have hrow : tremaref01_row.f 20 l[at_] = some (match bnd l[at_] with | none => ([], false) | some bs => (flat bs, true)) :=
    at_rounds (fun k => tremaref01_row.mono l[at_] k) (by omega) (row_some l[at_] hc)
  unfold tremaref01_At.f
  rw [if_pos (by omega), if_pos (by omega), rd_at l at_ hat, hrow]
  simp only [Option.bind_some, one1]
  cases h : bnd l[at_] with
  | none => simp
  | some bs =>
    have h3 := bnd_len h
    have := l0_pure l hb hl at_ hat bs h bs.length 0 20 rfl (Nat.zero_le _) (by omega) (by omega)
    have hm := mt_le bs (l.drop (at_ + 1))
    rw [Nat.zero_add, Nat.add_zero, List.drop_zero] at this
    simp only [if_true]
    rw [show (1 : Int) = 1 + ((0 : Nat) : Int) from rfl, this, cont_mt]
    unfold fin
    by_cases h4 : mt bs (l.drop (at_ + 1)) = bs.length
    · rw [if_neg (by omega), if_pos h4, h4]; rfl
    · have hlt : mt bs (l.drop (at_ + 1)) < bs.length := by omega
      rw [if_pos hlt, if_neg h4]
      have e : decide (at_ + 1 + mt bs (l.drop (at_ + 1)) = l.length) = decide (mt bs (l.drop (at_ + 1)) = (l.drop (at_ + 1)).length) := by
        rw [Bool.eq_iff_iff]
        simp only [decide_eq_true_eq, List.length_drop]
        omega
      rw [e]
      rfl
end Go.Proofs.YtiggjbclbdikmaaDoor.Ux

/-
  Decoding plainly: pieces, what is kept back, chunks.
-/
namespace Go.Proofs.YtiggjbclbdikmaaDoor.Ux
set_option linter.unusedVariables false
set_option linter.unusedSimpArgs false
open Go.RowKit Go.Proofs.YtiggjbclbdikmaaDoorW.PrintWords Go.Proofs.YtiggjbclbdikmaaDoor.Hp Go.Proofs.YtiggjbclbdikmaaDoor.X

/-- The code points that are sure, what is left, where it stands. -/
def dec : Nat → List Int → Int → List S75 × List Int × Int
  | 0, b, p => ([], b, p)
  | _ + 1, [], p => ([], [], p)
  | k + 1, c :: t, p =>
    if (one1 c t).2.2 = true then ([], c :: t, p)
    else ((⟨(one1 c t).1, p, (one1 c t).2.1⟩ : S75) :: (dec k ((c :: t).drop (one1 c t).2.1.toNat) (p + (one1 c t).2.1)).1, (dec k ((c :: t).drop (one1 c t).2.1.toNat) (p + (one1 c t).2.1)).2)
def dc (b : List Int) (p : Int) : List S75 × List Int × Int := dec b.length b p
/-- What Close tells of what was left. -/
def rest1 (b : List Int) (p : Int) : List S75 := if b = [] then [] else [⟨65533, p, b.length⟩]
def full (b : List Int) : List S75 := (dc b 0).1 ++ rest1 (dc b 0).2.1 (dc b 0).2.2

theorem drop_lt (c : Int) (t : List Int) : ((c :: t).drop (one1 c t).2.1.toNat).length ≤ t.length := by
  have := one1_width c t
  rw [List.length_drop, List.length_cons]
  omega
theorem dec_more : ∀ (k : Nat) (b : List Int) (p : Int), b.length ≤ k → dec k b p = dc b p
  | 0, [], p, _ => rfl
  | 0, c :: t, p, h => by simp at h
  | k + 1, [], p, _ => rfl
  | k + 1, c :: t, p, h => by
    have hd := drop_lt c t
    have h' : t.length ≤ k := by simpa using h
    unfold dc
    rw [List.length_cons]
    simp only [dec]
    rw [dec_more k _ _ (by omega), dec_more t.length _ _ hd]
theorem dc_nil (p : Int) : dc [] p = ([], [], p) := rfl
theorem dc_cons (c : Int) (t : List Int) (p : Int) : dc (c :: t) p = if (one1 c t).2.2 = true then ([], c :: t, p) else ((⟨(one1 c t).1, p, (one1 c t).2.1⟩ : S75) :: (dc ((c :: t).drop (one1 c t).2.1.toNat) (p + (one1 c t).2.1)).1, (dc ((c :: t).drop (one1 c t).2.1.toNat) (p + (one1 c t).2.1)).2) := by
  rw [dc, List.length_cons]
  simp only [dec]
  rw [dec_more t.length _ _ (drop_lt c t)]

/-- Induction over reading. -/
theorem dc_ind {P : List Int → Int → Prop} (h0 : ∀ p, P [] p) (h1 : ∀ c t p, (one1 c t).2.2 = true → P (c :: t) p) (h2 : ∀ c t p, (one1 c t).2.2 = false → P ((c :: t).drop (one1 c t).2.1.toNat) (p + (one1 c t).2.1) → P (c :: t) p) : ∀ b p, P b p := by
  intro b
  induction hn : b.length using Nat.strongRecOn generalizing b with
  | _ n ih =>
    intro p
    cases b with
    | nil => exact h0 p
    | cons c t =>
      cases hm : (one1 c t).2.2 with
      | true => exact h1 c t p hm
      | false =>
        have hd := drop_lt c t
        exact h2 c t p hm (ih _ (by rw [← hn, List.length_cons]; omega) _ rfl _)

theorem dc_len (b : List Int) (p : Int) : (dc b p).2.2 + (dc b p).2.1.length = p + b.length ∧ (dc b p).1.length + (dc b p).2.1.length ≤ b.length ∧ (dc b p).2.1.length ≤ b.length := by
  refine dc_ind (P := fun b p => (dc b p).2.2 + (dc b p).2.1.length = p + b.length ∧ (dc b p).1.length + (dc b p).2.1.length ≤ b.length ∧ (dc b p).2.1.length ≤ b.length) ?_ ?_ ?_ b p
  · intro p; simp [dc_nil]
  · intro c t p h; rw [dc_cons, if_pos h]; simp
  · intro c t p h ih
    have hw := one1_width c t
    rw [dc_cons, if_neg (by simp [h])]
    simp only [List.length_drop, List.length_cons] at ih ⊢
    omega

/-! a piece that is told stays so, whatever comes behind -/
theorem cont_stable : ∀ (bs : List (Int × Int)) (t s : List Int) (r i : Int), (cont bs t r i).2.2 = false → cont bs (t ++ s) r i = cont bs t r i
  | [], t, s, r, i, _ => rfl
  | b :: bs, [], s, r, i, h => by simp [cont] at h
  | (lo, hi) :: bs, x :: t, s, r, i, h => by
    simp only [cont, List.cons_append] at h ⊢
    split
    · rfl
    · rename_i hc
      rw [if_neg hc] at h
      exact cont_stable bs t s _ _ h
theorem one1_stable (c : Int) (t s : List Int) (h : (one1 c t).2.2 = false) : one1 c (t ++ s) = one1 c t := by
  unfold one1 at h ⊢
  cases hb : bnd c with
  | none => rfl
  | some bs =>
    rw [hb] at h
    exact cont_stable bs t s _ _ h
theorem cont_more : ∀ (bs : List (Int × Int)) (t : List Int) (r i : Int), (cont bs t r i).2.2 = true → (cont bs t r i).1 = 65533 ∧ (cont bs t r i).2.1 = i + t.length ∧ t.length < bs.length
  | [], t, r, i, h => by simp [cont] at h
  | b :: bs, [], r, i, h => by simp [cont]
  | (lo, hi) :: bs, x :: t, r, i, h => by
    simp only [cont] at h ⊢
    split
    · rename_i hc; rw [if_pos hc] at h; simp at h
    · rename_i hc
      rw [if_neg hc] at h
      have := cont_more bs t _ _ h
      simp only [List.length_cons]
      refine ⟨this.1, by rw [this.2.1]; push_cast; omega, by omega⟩
theorem one1_more (c : Int) (t : List Int) (h : (one1 c t).2.2 = true) : (one1 c t).1 = 65533 ∧ (one1 c t).2.1 = 1 + t.length ∧ t.length < 3 := by
  unfold one1 at h ⊢
  cases hb : bnd c with
  | none => rw [hb] at h; simp at h
  | some bs =>
    rw [hb] at h
    have h1 := cont_more bs t _ _ h
    have h2 := bnd_len hb
    exact ⟨h1.1, h1.2.1, by omega⟩
theorem dc_rest (b : List Int) (p : Int) : (dc b p).2.1.length ≤ 3 ∧ (dc (dc b p).2.1 (dc b p).2.2) = ([], (dc b p).2.1, (dc b p).2.2) := by
  refine dc_ind (P := fun b p => (dc b p).2.1.length ≤ 3 ∧ (dc (dc b p).2.1 (dc b p).2.2) = ([], (dc b p).2.1, (dc b p).2.2)) ?_ ?_ ?_ b p
  · intro p; simp [dc_nil]
  · intro c t p h
    have h3 := one1_more c t h
    rw [dc_cons, if_pos h]
    simp only [List.length_cons]
    exact ⟨by omega, by rw [dc_cons, if_pos h]⟩
  · intro c t p h ih
    rw [dc_cons, if_neg (by simp [h])]
    exact ih
theorem dc_append (b s : List Int) (p : Int) : dc (b ++ s) p = ((dc b p).1 ++ (dc ((dc b p).2.1 ++ s) (dc b p).2.2).1, (dc ((dc b p).2.1 ++ s) (dc b p).2.2).2) := by
  refine dc_ind (P := fun b p => dc (b ++ s) p = ((dc b p).1 ++ (dc ((dc b p).2.1 ++ s) (dc b p).2.2).1, (dc ((dc b p).2.1 ++ s) (dc b p).2.2).2)) ?_ ?_ ?_ b p
  · intro p; simp [dc_nil]
  · intro c t p h
    rw [dc_cons c t, if_pos h]
    simp
  · intro c t p h ih
    have hw := one1_width c t
    rw [dc_cons c t, if_neg (by simp [h]), List.cons_append, dc_cons c (t ++ s), one1_stable c t s h, if_neg (by simp [h])]
    have e : (c :: (t ++ s)).drop (one1 c t).2.1.toNat = (c :: t).drop (one1 c t).2.1.toNat ++ s := by
      rw [← List.cons_append, List.drop_append_of_le_length (by rw [List.length_cons]; omega)]
    rw [e, ih]
    simp

/-! the reference's Decode -/
theorem bytes_drop {l : List Int} (h : Bytes l) (n : Nat) : Bytes (l.drop n) := fun x hx => h x (List.mem_of_mem_drop hx)
theorem ref_dec (l : List Int) (hb : Bytes l) (hl : l.length ≤ 1000000000) (op : Bool) : ∀ (d i k : Nat) (acc : List S75), l.length - i = d → i ≤ l.length → d + 30 < k → acc.length ≤ i →
    tremaref01_Decode.l0 k l op acc i = some (acc ++ (dc (l.drop i) i).1 ++ (if op = true then [] else rest1 (dc (l.drop i) i).2.1 (dc (l.drop i) i).2.2)) := by
  intro d
  induction d using Nat.strongRecOn with
  | _ d ih =>
    intro i k acc hd hi hk ha
    obtain ⟨k, rfl⟩ : ∃ q, k = q + 1 := ⟨k - 1, by omega⟩
    simp only [tremaref01_Decode.l0]
    by_cases he : i = l.length
    · rw [if_neg (by omega), List.drop_eq_nil_of_le (by omega)]
      simp [dc_nil, rest1]
    · have hlt : i < l.length := by omega
      have hat := at_rounds (fun k => tremaref01_At.mono l i k) (show 20 ≤ k by omega) (at_pure l hb (by omega) i hlt)
      have hw := one1_width l[i] (l.drop (i + 1))
      rw [if_pos (by omega), hat, List.drop_eq_getElem_cons hlt, dc_cons]
      simp only [Option.bind_some]
      have hlen : (l.drop (i + 1)).length = l.length - i - 1 := by rw [List.length_drop]; omega
      cases hm : (one1 l[i] (l.drop (i + 1))).2.2 with
      | true =>
        have h3 := one1_more _ _ hm
        simp only [if_true]
        cases op with
        | true => simp
        | false =>
          simp only [Bool.false_eq_true, if_false]
          rw [if_pos (by omega)]
          have ew : wrap64 ((i : Int) + (one1 l[i] (l.drop (i + 1))).2.1) = ((l.length : Nat) : Int) := by rw [h3.2.1]; unfold wrap64; omega
          rw [ew, ih 0 (by omega) l.length k _ (by omega) (Nat.le_refl _) (by omega) (by simp; omega), List.drop_length]
          simp only [dc_nil, rest1, if_true, List.append_nil, h3.1, h3.2.1]
          rw [if_neg (by simp), List.length_cons, show ((1 : Int) + ((l.drop (i + 1)).length : Int)) = (((l.drop (i + 1)).length + 1 : Nat) : Int) by push_cast; omega]
          simp
          exact hlt
      | false =>
        have ew : wrap64 ((i : Int) + (one1 l[i] (l.drop (i + 1))).2.1) = ((i + (one1 l[i] (l.drop (i + 1))).2.1.toNat : Nat) : Int) := by unfold wrap64; omega
        have ed : (l[i] :: l.drop (i + 1)).drop (one1 l[i] (l.drop (i + 1))).2.1.toNat = l.drop (i + (one1 l[i] (l.drop (i + 1))).2.1.toNat) := by
          rw [← List.drop_eq_getElem_cons hlt, List.drop_drop]
        have ep : ((i + (one1 l[i] (l.drop (i + 1))).2.1.toNat : Nat) : Int) = (i : Int) + (one1 l[i] (l.drop (i + 1))).2.1 := by omega
        have h5 := ih (l.length - (i + (one1 l[i] (l.drop (i + 1))).2.1.toNat)) (by omega) (i + (one1 l[i] (l.drop (i + 1))).2.1.toNat) k (acc ++ [(⟨(one1 l[i] (l.drop (i + 1))).1, i, (one1 l[i] (l.drop (i + 1))).2.1⟩ : S75)]) rfl (by omega) (by omega) (by simp; omega)
        simp only [Bool.false_eq_true, if_false, ite_self]
        rw [if_pos (by omega), ew, h5, ed, ep]
        simp
theorem Ref_dec (l : List Int) (hb : Bytes l) (hl : l.length ≤ 1000000000) (op : Bool) : tremaref01_Decode.f (l.length + 31) l op = some ((dc l 0).1 ++ (if op = true then [] else rest1 (dc l 0).2.1 (dc l 0).2.2)) := by
  have := ref_dec l hb hl op l.length 0 (l.length + 31) [] (by omega) (by omega) (by omega) (by simp)
  simpa [tremaref01_Decode.f] using this
end Go.Proofs.YtiggjbclbdikmaaDoor.Ux

/-
  utf.Decoder: New, Write, Close, Pending, and Decode.
-/
namespace Go.Proofs.YtiggjbclbdikmaaDoor.Ud
set_option linter.unusedVariables false
set_option linter.unusedSimpArgs false
open Go.RowKit Go.Proofs.YtiggjbclbdikmaaDoorW.PrintWords Go.Proofs.YtiggjbclbdikmaaDoor.Hp Go.Proofs.YtiggjbclbdikmaaDoor.X Go.Proofs.YtiggjbclbdikmaaDoor.Ux

abbrev TD : Nat := 104
abbrev TP : Nat := 75
theorem info_8 : (Tryd.prog.info? 5).map (fun i => (i.zero, i.size, i.bytes)) = some (some (.int .u8 0), 1, 1) := by kernel_rfl
theorem info_P : (Tryd.prog.info? 75).map (fun i => (i.zero, i.size, i.bytes)) = some (some (.agg #[.int .i32 0, .int .i64 0, .int .i64 0]), 3, 24) := by kernel_rfl

/-- A decoder at block g: what it keeps back, where it stands. -/
def IsDec (g base : Nat) (kept : List Int) (at_ : Int) (closed : Bool) (ok : Nat → Prop) (w : World) : Prop :=
  ∃ kv, w.heap[g]? = some (.cells #[kv, .int .i64 at_, .bool closed] TD (0, 0)) ∧ base ≤ g ∧ ok g ∧ w.ownsRow base 5 1 kv kept.length (nums .u8 kept) ∧ ∀ b, kv.ownBlock = some b → ok b ∧ b ≠ g
section
variable {g base : Nat} {kept : List Int} {at_ : Int} {closed : Bool} {ok ok' : Nat → Prop} {w w1 : World}
theorem IsDec.mono (h : IsDec g base kept at_ closed ok w) (hok : ∀ k, ok k → ok' k) : IsDec g base kept at_ closed ok' w := by
  obtain ⟨kv, h1, h2, h3, h4, h5⟩ := h
  exact ⟨kv, h1, h2, hok _ h3, h4, fun b hb => ⟨hok _ (h5 b hb).1, (h5 b hb).2⟩⟩
theorem IsDec.bound (h : IsDec g base kept at_ closed ok w) : IsDec g base kept at_ closed (fun k => ok k ∧ k < w.heap.size) w := by
  obtain ⟨kv, h1, h2, h3, h4, h5⟩ := h
  exact ⟨kv, h1, h2, ⟨h3, blk_lt h1⟩, h4, fun b hb => ⟨⟨(h5 b hb).1, own_lt h4 b hb⟩, (h5 b hb).2⟩⟩
theorem IsDec.step (h : IsDec g base kept at_ closed ok w) (hm : ∀ k, ok k → k < w.heap.size → w1.heap[k]? = w.heap[k]?) : IsDec g base kept at_ closed ok w1 := by
  obtain ⟨kv, h1, h2, h3, h4, h5⟩ := h
  exact ⟨kv, (hm g h3 (blk_lt h1)).trans h1, h2, h3, own_move h4 (fun b hb => hm b (h5 b hb).1 (own_lt h4 b hb)), h5⟩
theorem IsDec.below (h : IsDec g base kept at_ closed ok w) (hb : Below w.heap.size w w1) : IsDec g base kept at_ closed ok w1 := h.step (fun k _ hlt => hb.block k hlt)
theorem IsDec.chg {S : Nat → Prop} (h : IsDec g base kept at_ closed ok w) (hc : Chg S w w1) (hd : ∀ k, k < w.heap.size → ok k → ¬ S k) : IsDec g base kept at_ closed ok w1 :=
  (h.bound.step (fun k hk hlt => hc.keep k hlt (hd k hk.2 hk.1))).mono (fun _ hk => hk.1)
theorem IsDec.lower {base' : Nat} (h : IsDec g base kept at_ closed ok w) (hb : base' ≤ base) : IsDec g base' kept at_ closed ok w := by
  obtain ⟨kv, h1, h2, h3, h4, h5⟩ := h
  exact ⟨kv, h1, Nat.le_trans hb h2, h3, own_weaken h4 hb, h5⟩
theorem IsDec.lt (h : IsDec g base kept at_ closed ok w) : g < w.heap.size ∧ base ≤ g ∧ ok g := by
  obtain ⟨kv, h1, h2, h3, _⟩ := h
  exact ⟨blk_lt h1, h2, h3⟩
end

def NewPost (w : World) (e : Ending) (w' : World) : Prop := ∃ g, e = .returned (.pointer (some ⟨g, 0, none⟩)) ∧ w.heap.size ≤ g ∧ IsDec g w.heap.size [] 0 false (fun b => b = g) w' ∧ Below w.heap.size w w'

set_option maxHeartbeats 1000000 in
theorem New (w : World) : Calls Tryd.prog 66 #[] w (NewPost w) := by
  have hfin : NewPost w (.returned (.pointer (some ⟨w.heap.size, 0, none⟩))) (w.alloc (.cells #[.slice none 0 0, .int .i64 0, .bool false] TD)) :=
    ⟨w.heap.size, rfl, Nat.le_refl _, ⟨.slice none 0 0, heap_alloc_new w _, Nat.le_refl _, rfl, own_nil _ _ _ _, by simp [Value.ownBlock]⟩, below_alloc (Below.refl _ _) _⟩
  go_enter Tryd.func66, Tryd.ntmps66
  go_wp2
  go_ret
  exact hfin

set_option maxHeartbeats 1000000 in
theorem CloseNil (w : World) : Calls Tryd.prog 72 #[.pointer none] w fun e w' => e = .returned (.slice none 0 0) ∧ w = w' := by
  go_enter Tryd.func72, Tryd.ntmps72
  go_wp2
  go_ret
  exact ⟨rfl, rfl⟩
set_option maxHeartbeats 1000000 in
theorem WriteNil (w : World) (A : Option Addr) (n c : Nat) : Calls Tryd.prog 70 #[.pointer none, .slice A n c] w fun e w' => e = .returned (.slice none 0 0) ∧ w = w' := by
  go_enter Tryd.func70, Tryd.ntmps70
  go_wp2
  go_ret
  exact ⟨rfl, rfl⟩
set_option maxHeartbeats 1000000 in
theorem CloseClosed (w : World) (g base : Nat) (kept : List Int) (at_ : Int) (ok : Nat → Prop) (h : IsDec g base kept at_ true ok w) :
    Calls Tryd.prog 72 #[.pointer (some ⟨g, 0, none⟩)] w fun e w' => e = .returned (.slice none 0 0) ∧ w = w' := by
  obtain ⟨kv, h1, h2, h3, h4, h5⟩ := h
  have c2 : w.cell? ⟨g, 2, none⟩ = some (.bool true) := by simp [World.cell?, h1]
  clear h1 h2 h3 h4 h5
  go_enter Tryd.func72, Tryd.ntmps72
  go_wp2
  go_ret
  exact ⟨rfl, rfl⟩
set_option maxHeartbeats 1000000 in
theorem WriteClosed (w : World) (g base : Nat) (kept : List Int) (at_ : Int) (ok : Nat → Prop) (A : Option Addr) (n c : Nat) (h : IsDec g base kept at_ true ok w) :
    Calls Tryd.prog 70 #[.pointer (some ⟨g, 0, none⟩), .slice A n c] w fun e w' => e = .returned (.slice none 0 0) ∧ w = w' := by
  obtain ⟨kv, h1, h2, h3, h4, h5⟩ := h
  have c2 : w.cell? ⟨g, 2, none⟩ = some (.bool true) := by simp [World.cell?, h1]
  clear h1 h2 h3 h4 h5
  go_enter Tryd.func70, Tryd.ntmps70
  go_wp2
  go_ret
  exact ⟨rfl, rfl⟩

/-- Close on an open decoder: what was kept back is one piece; the list is new. -/
def ClosePost (w : World) (g base : Nat) (kept : List Int) (at_ : Int) (ok : Nat → Prop) (e : Ending) (w' : World) : Prop :=
  ∃ lv, e = .returned lv ∧ Kd.R k75 TP w' w.heap.size (fun _ => True) lv (rest1 kept at_) ∧ IsDec g base [] at_ true (fun b => b = g) w' ∧ Chg (fun b => b = g) w w'

set_option maxHeartbeats 2000000 in
theorem Close (w : World) (g base : Nat) (kept : List Int) (at_ : Int) (ok : Nat → Prop) (h : IsDec g base kept at_ false ok w) :
    Calls Tryd.prog 72 #[.pointer (some ⟨g, 0, none⟩)] w (ClosePost w g base kept at_ ok) := by
  obtain ⟨kv, h1, h2, h3, h4, h5⟩ := h
  have c0 : w.cell? ⟨g, 0, none⟩ = some kv := by simp [World.cell?, h1]
  have c1 : w.cell? ⟨g, 1, none⟩ = some (.int .i64 at_) := by simp [World.cell?, h1]
  have c2 : w.cell? ⟨g, 2, none⟩ = some (.bool false) := by simp [World.cell?, h1]
  have f0 : w.frozen? ⟨g, 0, none⟩ = false := by simp [World.frozen?, h1]
  have f2 : w.frozen? ⟨g, 2, none⟩ = false := by simp [World.frozen?, h1]
  obtain ⟨A, c, rfl, hr⟩ := own_reads h4
  have hm := hr.2.1
  have hl := blk_lt h1
  obtain ⟨W, hW⟩ : ∃ W, W = (w.setCell ⟨g, 2, none⟩ (.bool true)).setCell ⟨g, 0, none⟩ (.slice none 0 0) := ⟨_, rfl⟩
  have hWg : W.heap[g]? = some (.cells #[.slice none 0 0, .int .i64 at_, .bool true] TD (0, 0)) := by
    have := blk_set (blk_set h1 2 (.bool true)) 0 (.slice none 0 0)
    rw [hW]; simpa using this
  have hch : Chg (fun b => b = g) w W := by rw [hW]; exact ((Chg.refl (fun b => b = g) w).setCell (p := ⟨g, 2, none⟩) (.inl rfl) _).setCell (p := ⟨g, 0, none⟩) (.inl rfl) _
  have hdec : IsDec g base [] at_ true (fun b => b = g) W := ⟨_, hWg, h2, rfl, own_nil _ _ _ _, by simp [Value.ownBlock]⟩
  have hsz : W.heap.size = w.heap.size := by rw [hW]; simp [World.setCell]
  by_cases h0 : kept.length = 0
  · have hk : kept = [] := List.eq_nil_of_length_eq_zero h0
    have hfin : ClosePost w g base kept at_ ok (.returned (.slice none 0 0)) W := ⟨_, rfl, by rw [hk]; exact Kd.R_nil _ _ _ _ _, hdec, hch⟩
    rw [hW] at hfin
    subst hk
    clear h1 h2 h3 h4 h5 hr hW hWg hch hdec hsz h0
    go_enter Tryd.func72, Tryd.ntmps72
    go_wp2
    go_ret
    exact hfin
  · have hb : ((kept.length : Int) == 0) = false := by simpa using h0
    have hfin : ClosePost w g base kept at_ ok (.returned (.slice (some ⟨w.heap.size, 0, none⟩) 1 1)) (W.alloc (.cells #[.int .i32 65533, .int .i64 at_, .int .i64 kept.length] TP)) := by
      refine ⟨_, rfl, ?_, hdec.below (below_alloc (Below.refl _ _) _), hch.alloc _⟩
      have e : rest1 kept at_ = [(⟨65533, at_, kept.length⟩ : S75)] := by unfold rest1; rw [if_neg (fun hk => h0 (by rw [hk]; rfl))]
      rw [e]
      refine ⟨fun _ _ => trivial, [.int .i32 65533, .int .i64 at_, .int .i64 kept.length], ⟨rfl, .inr ⟨w.heap.size, 1, #[.int .i32 65533, .int .i64 at_, .int .i64 kept.length], rfl, Nat.le_refl _, ?_, Nat.le_refl _, by simp [maxLen], rfl, rfl⟩⟩, ?_⟩
      · rw [← hsz]; exact heap_alloc_new W _
      · refine ⟨rfl, fun j p hj => ?_⟩
        match j, hj with
        | 0, hj => cases hj; exact k75_mkM _ _ _ _
        | j + 1, hj => simp at hj
    rw [hW] at hfin
    clear h1 h2 h3 h4 h5 hr hW hWg hch hdec hsz h0
    go_enter Tryd.func72, Tryd.ntmps72
    go_wp2
    go_ret
    exact hfin
end Go.Proofs.YtiggjbclbdikmaaDoor.Ud

/-
  utf.Decoder.Write on an open decoder.
-/
namespace Go.Proofs.YtiggjbclbdikmaaDoor.Ud
set_option linter.unusedVariables false
set_option linter.unusedSimpArgs false
open Go.RowKit Go.Proofs.YtiggjbclbdikmaaDoorW.PrintWords Go.Proofs.YtiggjbclbdikmaaDoor.Hp Go.Proofs.YtiggjbclbdikmaaDoor.X Go.Proofs.YtiggjbclbdikmaaDoor.Ux

def sliceLen : Value → Nat
  | .slice _ n _ => n
  | _ => 0

/-- What Write leaves: the sure points in new memory, the rest kept back behind them. -/
def WritePost (w : World) (g base : Nat) (all : List Int) (at_ : Int) (ok : Nat → Prop) (e : Ending) (w' : World) : Prop :=
  ∃ lv M, e = .returned lv ∧ w.heap.size ≤ M ∧ Kd.R k75 TP w' w.heap.size (fun b => b < M) lv (dc all at_).1 ∧ IsDec g base (dc all at_).2.1 (dc all at_).2.2 false (fun b => b = g ∨ M ≤ b) w' ∧ Chg ok w w'

/-- At a round's head. -/
def Inv (W1 : World) (g : Nat) (kv : Value) (all : List Int) (at0 : Int) (av lv : Value) (rest : List Int) (wr : World) : Prop :=
  ∃ (pts : List S75) (at_ : Int) (A : Option Addr) (c : Nat), av = .slice A rest.length c ∧ rest.length ≤ c ∧ Kd.C (Kd.int .u8) wr A rest.length rest ∧ (∀ ad, A = some ad → ad.block < W1.heap.size ∧ ad.block ≠ g) ∧
    Kd.R k75 TP wr W1.heap.size (fun _ => True) lv pts ∧ wr.heap[g]? = some (.cells #[kv, .int .i64 at_, .bool false] TD (0, 0)) ∧
    dc all at0 = (pts ++ (dc rest at_).1, (dc rest at_).2) ∧ Chg (fun b => b = g) W1 wr ∧ at_ + rest.length = at0 + all.length ∧ pts.length + rest.length ≤ all.length

theorem Inv.chg {W1 : World} {g : Nat} {kv : Value} {all : List Int} {at0 : Int} {av lv : Value} {rest : List Int} {wr : World} (h : Inv W1 g kv all at0 av lv rest wr) : Chg (fun b => b = g) W1 wr := by
  obtain ⟨_, _, _, _, _, _, _, _, _, _, _, h, _⟩ := h; exact h


/-- The end, out of the invariant: 'all' is used up, or its front may still be made whole. -/
theorem Inv.fin {w W1 wr wq : World} {g base : Nat} {ok : Nat → Prop} {kv av lv : Value} {all rest : List Int} {at0 : Int} (h : Inv W1 g kv all at0 av lv rest wr) (hstop : ∀ p, dc rest p = ([], rest, p)) (hq : Drawn0 wr wq)
    (hW : Chg ok w W1) (hbase : base ≤ g) (hok : ok g) (hbw : base ≤ w.heap.size) (hgw : g < w.heap.size) : ∀ (v1 : Value) (w1 : World), w1.ownsRow wq.heap.size 5 1 v1 rest.length (nums .u8 rest) → Below wq.heap.size wq w1 → WritePost w g base all at0 ok (.returned lv) (w1.setCell ⟨g, 0, none⟩ v1) := by
  intro v1 w1 hown hb
  obtain ⟨pts, at_, A, c, rfl, hc, hC, hA, hR, hg, hd, hch, _, _⟩ := h
  have hs1 := hq.below.size
  have hs2 := hch.size
  have hs3 := hW.size
  have hs4 := hb.size
  have e : dc all at0 = (pts, rest, at_) := by rw [hd, hstop]; simp
  have hbq := hq.below
  have hRq : Kd.R k75 TP w1 W1.heap.size (fun b => b < wq.heap.size) lv pts := by
    have h1 := Kd.R_below hR hbq
    exact Kd.R_below (Kd.R_mono (Kd.R_bound h1) (fun b hb => hb.2.2.1)) hb
  have hgq : wq.heap[g]? = some (.cells #[kv, .int .i64 at_, .bool false] TD (0, 0)) := (hbq.block g (by omega)).trans hg
  have hg1 : w1.heap[g]? = some (.cells #[kv, .int .i64 at_, .bool false] TD (0, 0)) := (hb.block g (by omega)).trans hgq
  have hRg : Kd.R k75 TP w1 W1.heap.size (fun b => b < wq.heap.size ∧ b ≠ g) lv pts := Kd.R_mono (Kd.R_bound hRq) (fun b hb => ⟨hb.1, by have := hb.2.1; omega⟩)
  refine ⟨lv, wq.heap.size, rfl, by omega, ?_, ?_, ?_⟩
  · rw [e]
    exact Kd.R_lower (Kd.R_mono (Kd.R_far (p := ⟨g, 0, none⟩) hRg (fun b hb => hb.2) v1) (fun b hb => hb.1)) hs3
  · rw [e]
    refine ⟨v1, ?_, hbase, .inl rfl, ?_, ?_⟩
    · have := blk_set hg1 0 v1
      simpa using this
    · exact own_setCell (own_weaken hown (by omega)) (fun he => by have := own_base hown g he.symm; omega) v1
    · intro b hb2
      have := own_base hown b hb2
      exact ⟨.inr this, by omega⟩
  · exact ((((hW.trans hch (fun i hi hs => by subst hs; exact hok)).then_below hbq).then_below hb)).setCell (p := ⟨g, 0, none⟩) (.inl hok) v1

theorem chg_below {S : Nat → Prop} {w w1 w2 : World} (h : Chg S w w1) (k : Below w.heap.size w1 w2) : Chg S w w2 :=
  ⟨k.os.trans h.os, k.tape.trans h.tape, k.output.trans h.output, Nat.le_trans h.size k.size, fun i hi hn => (k.block i hi).trans (h.keep i hi hn)⟩
/-- One point told. -/
theorem Inv.next {W1 wr wq w2 : World} {g : Nat} {kv lv2 : Value} {all : List Int} {at0 : Int} {pts : List S75} {at_ : Int} {A : Option Addr} {c : Nat} {rest : List Int} {x : Int} {t : List Int} {r : Int} {m : Nat} (hx : rest = x :: t) (ho : one1 x t = (r, (m : Int), false))
    (hc : rest.length ≤ c) (hC : Kd.C (Kd.int .u8) wr A rest.length rest) (hA : ∀ ad, A = some ad → ad.block < W1.heap.size ∧ ad.block ≠ g) (hg : wr.heap[g]? = some (.cells #[kv, .int .i64 at_, .bool false] TD (0, 0)))
    (hd : dc all at0 = (pts ++ (dc rest at_).1, (dc rest at_).2)) (hch : Chg (fun b => b = g) W1 wr) (hs : at_ + rest.length = at0 + all.length) (hp : pts.length + rest.length ≤ all.length) (hgl : g < W1.heap.size)
    (hq : Drawn0 wr wq) (hR : Kd.R k75 TP w2 W1.heap.size (fun _ => True) lv2 (pts ++ [(⟨r, at_, m⟩ : S75)])) (hb : Below W1.heap.size wq w2) (A2 : Option Addr) (hA2 : A2 = if c = m then A else A.map (·.add (m * 1))) :
    Inv W1 g kv all at0 (.slice A2 (rest.length - m) (c - m)) lv2 (rest.drop m) (w2.setCell ⟨g, 1, none⟩ (.int .i64 (at_ + m))) := by
  have hw := one1_width x t
  rw [ho] at hw
  simp only at hw
  have hl : rest.length = t.length + 1 := by rw [hx]; rfl
  have hm : m ≤ rest.length := by omega
  have hs1 := hq.below.size
  have hs2 := hch.size
  have hgq : wq.heap[g]? = some (.cells #[kv, .int .i64 at_, .bool false] TD (0, 0)) := (hq.below.block g (by omega)).trans hg
  have hg2 := (hb.block g hgl).trans hgq
  have hread := ((rdint hC).below hq.below).drop_ m hm hc
  refine ⟨pts ++ [(⟨r, at_, m⟩ : S75)], at_ + m, A2, c - m, by rw [List.length_drop], by rw [List.length_drop]; omega, ?_, ?_, ?_, ?_, ?_, ?_, ?_, ?_⟩
  · rw [List.length_drop]
    have h1 : ReadsInt wq .u8 A2 (rest.length - m) (rest.drop m) := by
      rw [hA2]
      simpa using hread
    refine rdC ⟨h1.1, h1.2.1, fun hp => ?_⟩
    obtain ⟨ad, he, hcell⟩ := h1.2.2 hp
    refine ⟨ad, he, fun j hj => ?_⟩
    have hbk : ad.block < W1.heap.size ∧ ad.block ≠ g := by
      rw [hA2] at he
      split at he
      · exact hA ad he
      · cases A with
        | none => simp at he
        | some a0 =>
          simp only [Option.map_some, Option.some.injEq] at he
          have := hA a0 rfl
          rw [← he]
          unfold Addr.add
          split <;> exact this
    have hab : (ad.add j).block = ad.block := by unfold Addr.add; split <;> rfl
    have h2 : (w2.setCell ⟨g, 1, none⟩ (.int .i64 (at_ + m))).heap[(ad.add j).block]? = wq.heap[(ad.add j).block]? := by
      rw [hab]
      exact (Below.heap_setCell _ _ _ _ hbk.2).trans (hb.block _ hbk.1)
    rw [← hcell j hj]
    exact World.cell?_of_block h2
  · intro ad he
    rw [hA2] at he
    split at he
    · exact hA ad he
    · cases A with
      | none => simp at he
      | some a0 =>
        simp only [Option.map_some, Option.some.injEq] at he
        have := hA a0 rfl
        rw [← he]
        unfold Addr.add
        split <;> exact this
  · exact Kd.R_mono (Kd.R_far (p := ⟨g, 1, none⟩) (Kd.R_mono (ok' := fun b => b ≠ g) (Kd.R_bound hR) (fun b hb => by have := hb.2.1; omega)) (fun b hb => hb) _) (fun _ _ => trivial)
  · have := blk_set hg2 1 (.int .i64 (at_ + m))
    simpa using this
  · rw [hd, hx, dc_cons, ho]
    simp
  · exact (chg_below (hch.then_drawn hq) hb).setCell (p := ⟨g, 1, none⟩) (.inl rfl) _
  · rw [List.length_drop]; omega
  · rw [List.length_drop, List.length_append, List.length_singleton]; omega

set_option maxRecDepth 100000 in
set_option maxHeartbeats 4000000 in
theorem Write (w : World) (g base : Nat) (kept : List Int) (at0 : Int) (ok : Nat → Prop) (A : Option Addr) (n c : Nat) (bs : List Int) (h : IsDec g base kept at0 false ok w) (hb : ReadsInt w .u8 A n bs) 
    (hB : Bytes (kept ++ bs)) (hlen : kept.length + n ≤ 1000000000) (hat : 0 ≤ at0 ∧ at0 ≤ 4000000000000000) :
    Calls Tryd.prog 70 #[.pointer (some ⟨g, 0, none⟩), .slice A n c] w (WritePost w g base (kept ++ bs) at0 ok) := by
  obtain ⟨kv, h1, h2, h3, h4, h5⟩ := h
  have c0 : w.cell? ⟨g, 0, none⟩ = some kv := by simp [World.cell?, h1]
  have c2 : w.cell? ⟨g, 2, none⟩ = some (.bool false) := by simp [World.cell?, h1]
  have hl := blk_lt h1
  have hbn := hb.1
  have H1 := Aside0.mk h1
  have H4 := Aside0.mk h4
  have H5 := Aside0.mk h5
  have HBY := Aside0.mk hB
  have HRB := Aside0.mk hb
  have HBN := Aside0.mk hbn
  obtain ⟨hat0, hat1⟩ := hat
  clear h1 h4 h5 hB hb hbn
  go_enter Tryd.func70, Tryd.ntmps70
  go_wp2_with (at_builtin; go_must (refine print_append_row (w0 := w) base rfl (.tmp 21) (.tmp 22) 27 5 .u8 1 rfl Tryd.underlying27 info_8 (by decide) kv kept bs A n c rfl rfl H4.out HRB.out (Below.refl _ _) (by omega) (by omega) ?hh))
  case hh =>
    intro v1 W1 hown0 hb1 hg1 hat1
    obtain ⟨L, hL⟩ : ∃ L, L = (kept ++ bs).length := ⟨_, rfl⟩
    have hown : W1.ownsRow base 5 1 v1 L (nums .u8 (kept ++ bs)) := by rw [hL, List.length_append]; exact hown0
    clear hown0
    obtain ⟨A1, c1, rfl, hr1⟩ := own_reads hown
    have hn1 : (A1 = none → False) ∨ True := .inr trivial
    have hW : Chg ok w W1 := (Chg.refl ok w).grown hg1 (fun b hb => .inl (H5.out b hb).1)
    have hgW : W1.heap[g]? = some (.cells #[kv, .int .i64 at0, .bool false] TD (0, 0)) := (hg1.block g hl (fun he => (H5.out g he.symm).2 rfl)).trans H1.out
    have hcap : L ≤ c1 := by
      rcases hown.2 with ⟨he, hn⟩ | ⟨go, cap, cur, he, _, _, h7, _⟩
      · injection he; omega
      · injection he; omega
    have hA1 : ∀ ad, A1 = some ad → ad.block < W1.heap.size ∧ ad.block ≠ g := by
      intro ad he
      have hob : (Value.slice A1 L c1).ownBlock = some ad.block := by rw [he]; rfl
      refine ⟨own_lt hown _ hob, fun hbg => ?_⟩
      rcases hat1 with h7 | ⟨b, h7, h8⟩
      · rw [hob] at h7; exact (H5.out _ h7.symm).2 hbg
      · rw [hob] at h7; injection h7 with h7; omega
    have hsl : base ≤ w.heap.size := by omega
    have hall : (kept ++ bs).length ≤ 1000000000 := by rw [List.length_append, HBN.out]; exact hlen
    have hinv : Inv W1 g kv (kept ++ bs) at0 (.slice A1 (kept ++ bs).length c1) (.slice none 0 0) (kept ++ bs) W1 :=
      ⟨[], at0, A1, c1, rfl, by rw [← hL]; exact hcap, by rw [← hL]; exact rdC hr1, hA1, Kd.R_nil _ _ _ _ _, hgW, by simp, Chg.refl _ _, rfl, by simp⟩
    have hgl : g < W1.heap.size := blk_lt hgW
    have HINV := Aside0.mk hinv
    have HWW := Aside0.mk hW
    have HBY2 := Aside0.mk (show Bytes (kept ++ bs) from HBY.out)
    obtain ⟨all, hall2⟩ : ∃ all, all = kept ++ bs := ⟨_, rfl⟩
    rw [← hall2] at HINV HBY2 hall
    have HALL := Aside0.mk hall2
    have hrb : ∀ rest : List Int, (∃ k, rest = all.drop k) → Bytes rest := fun rest ⟨k, he⟩ => by rw [he]; exact bytes_drop HBY2.out k
    have hll : L = all.length := by rw [hall2, hL]
    have HLL := Aside0.mk hll
    clear hinv hW hcap hA1 hr1 hown hb1 hg1 hat1 hgW hall2 hn1 hll hL
    have HBR := Aside0.mk hrb
    clear hrb
    go_wp2_with fail
    go_loopw [5, 6] (fun av lv wr => ∃ (rest : List Int), Aside0 (Inv W1 g kv all at0 av lv rest wr) ∧ Aside0 (∃ k, rest = all.drop k)) (fun av _ _ => sliceLen av)
    case atStart => exact ⟨all, by rw [HLL.out]; exact HINV, ⟨0, by simp⟩⟩
    case round =>
      obtain ⟨rest, HI, HK⟩ := hrel
      have HBRE := Aside0.mk (HBR.out rest HK.out)
      obtain ⟨pts, at_, A, c, rfl, hc, hC, hA, hR, hg, hd, hch, hs, hp⟩ := HI.out
      have hfinI := HI.out
      have hm := Kd.C_max hC
      have hs1 := hch.size
      cases hrest : rest with
      | nil =>
        rw [hrest] at hfinI hC
        obtain ⟨wq, hwq⟩ : ∃ wq, wq = wr := ⟨_, rfl⟩
        have HC := Aside0.mk (show Kd.C (Kd.int .u8) wr A ([] : List Int).length [] from hC)
        have HG := Aside0.mk (And.intro hg (show g < wr.heap.size by omega))
        have HEND := Aside0.mk (Inv.fin hfinI (fun p => rfl) (Drawn0.refl wr) HWW.out h2 h3 (by omega) hl)
        clear hfinI hC hg hd hch hs hp hA hR hrest hc HI hwq
        go_wp2_with (at_builtin; go_must (refine print_append_row (w0 := wr) (wr).heap.size rfl (.const (.slice none 0 0)) (.tmp 56) 27 5 .u8 1 rfl Tryd.underlying27 info_8 (by decide) (.slice none 0 0) [] ([] : List Int) A (([] : List Int)).length c rfl rfl (own_nil _ _ _ _) (rdint HC.out) (Below.refl _ _) (Nat.le_refl _) (by first | (simp; done) | (simp; omega)) ?hh))
        case hh =>
          intro v1 w1 hown hb1 hg1 hat1
          have hc1 : w1.cell? ⟨g, 0, none⟩ = some kv := by
            have : w1.heap[g]? = (wr).heap[g]? := hb1.block g HG.out.2
            simp [World.cell?, this, HG.out.1]
          have hf1 : w1.frozen? ⟨g, 0, none⟩ = false := by
            have : w1.heap[g]? = (wr).heap[g]? := hb1.block g HG.out.2
            simp [World.frozen?, this, HG.out.1]
          have hfin : WritePost w g base all at0 ok (.returned u6) (w1.setCell ⟨g, 0, none⟩ v1) := HEND.out v1 w1 (by simpa using hown) hb1
          rw [HALL.out] at hfin
          have HFIN := Aside0.mk hfin
          obtain ⟨A1, c1, rfl⟩ := own_slice hown
          clear hfin hown hb1 hg1 hat1
          go_wp2
          go_ret
          exact HFIN.out
      | cons x t =>
        have hlr : rest.length ≤ all.length := by omega
        have hpos : 0 < rest.length := by rw [hrest]; simp
        have hdp : decide (0 < rest.length) = true := by simpa using hpos
        have hbr := HBRE.out
        have hone : utf_one.f 8 rest = some (one1 x t) := by rw [hrest] at hbr ⊢; exact one_pure x t hbr (by rw [← hrest]; omega)
        obtain ⟨r, nn, more, he⟩ : ∃ r nn more, one1 x t = (r, nn, more) := ⟨_, _, _, rfl⟩
        rw [he] at hone
        have hcall := utf_one.calls 8 A c rest r nn more wr hC hc hone
        have HCALL := Aside0.mk hcall
        have hw := one1_width x t
        rw [he] at hw
        obtain ⟨hw1, hw2, hw3⟩ := hw
        simp only at hw1 hw2 hw3
        have hge : g < wr.heap.size := by omega
        rw [← hrest]
        cases more with
        | true =>
          have hstop : ∀ p, dc rest p = ([], rest, p) := fun p => by rw [hrest, dc_cons, he]; rfl
          have HST := Aside0.mk hstop
          have HFI := Aside0.mk hfinI
          have HCC := Aside0.mk hC
          have HGG := Aside0.mk hg
          clear hfinI hC hg hd hch hs hp hA hR hrest HI hone hcall hbr hstop he
          go_wp2_with (first | (go_at_call 88; have t0 := HCALL.out; refine t0.mono ?_; rintro e wq ⟨rfl, hq⟩; have HQ := Aside0.mk hq; have HC := Aside0.mk (Kd.C_below HCC.out HQ.out.below); have HG := Aside0.mk (And.intro (HQ.out.below.block g hge |>.trans HGG.out) (Nat.lt_of_lt_of_le hge HQ.out.below.size)); have HEND := Aside0.mk (Inv.fin HFI.out HST.out HQ.out HWW.out h2 h3 (by omega) hl); clear hq t0 HCALL) | (at_builtin; go_must (refine print_append_row (w0 := wq) wq.heap.size rfl (.const (.slice none 0 0)) (.tmp 56) 27 5 .u8 1 rfl Tryd.underlying27 info_8 (by decide) (.slice none 0 0) [] rest A rest.length c rfl rfl (own_nil _ _ _ _) (rdint HC.out) (Below.refl _ _) (Nat.le_refl _) (by simp; omega) ?hh)))
          case hh =>
            intro v1 w1 hown hb1 hg1 hat1
            have hc1 : w1.cell? ⟨g, 0, none⟩ = some kv := by
              have : w1.heap[g]? = (wq).heap[g]? := hb1.block g HG.out.2
              simp [World.cell?, this, HG.out.1]
            have hf1 : w1.frozen? ⟨g, 0, none⟩ = false := by
              have : w1.heap[g]? = (wq).heap[g]? := hb1.block g HG.out.2
              simp [World.frozen?, this, HG.out.1]
            have hfin : WritePost w g base all at0 ok (.returned u6) (w1.setCell ⟨g, 0, none⟩ v1) := HEND.out v1 w1 (by simpa using hown) hb1
            rw [HALL.out] at hfin
            have HFIN := Aside0.mk hfin
            obtain ⟨A1, c1, rfl⟩ := own_slice hown
            clear hfin hown hb1 hg1 hat1
            go_wp2
            go_ret
            exact HFIN.out
        | false =>
          obtain ⟨m, rfl⟩ : ∃ m : Nat, nn = m := ⟨nn.toNat, by omega⟩
          obtain ⟨i8, hi8, hz8⟩ := Option.map_eq_some_iff.1 info_8
          simp only [Prod.mk.injEq] at hz8
          obtain ⟨A2, hA2⟩ : ∃ A2, A2 = (if c = m then A else A.map (·.add (m * 1))) := ⟨_, rfl⟩
          have hlt1 : rest.length = t.length + 1 := by rw [hrest]; rfl
          have hcut : ∀ W : World, (Instr.slice 27 (.slice A rest.length c) (some (.int .i64 (m : Int))) none none).run Tryd.prog W = .ok (.slice A2 (rest.length - m) (c - m)) W := by
            intro W
            have := cut_from (P := Tryd.prog) 27 5 .i64 Tryd.underlying27 hi8 1 hz8.2.1 A rest.length c (m : Int) (by omega) (by omega) W
            rw [hA2]
            simpa using this
          have hat_0 : 0 ≤ at_ := by omega
          have hat_1 : at_ ≤ 5000000000000000 := by omega
          obtain ⟨k0, hk0⟩ := HK.out
          have HDR := Aside0.mk (show ∃ k, rest.drop m = all.drop k from ⟨k0 + m, by rw [hk0, List.drop_drop]⟩)
          have HNX := Aside0.mk (fun (wq w2 : World) (lv2 : Value) (hq : Drawn0 wr wq) (hR2 : Kd.R k75 TP w2 W1.heap.size (fun _ => True) lv2 (pts ++ [(⟨r, at_, m⟩ : S75)])) (hb2 : Below W1.heap.size wq w2) =>
            Inv.next hrest he hc hC hA hg hd hch hs hp hgl hq hR2 hb2 A2 hA2)
          have HRR := Aside0.mk hR
          have HGG := Aside0.mk hg
          have hpl : pts.length ≤ 1000000000 := by omega
          have hmr : m ≤ rest.length := by omega
          clear hlt1 hfinI hC hg hd hch hs hp hA hR hrest HI hone hcall hbr he hi8 hz8 hA2 hk0 hm
          go_wp2_with (first | (go_at_call 88; go_must (have t0 := HCALL.out; refine t0.mono ?_; rintro e wq ⟨rfl, hq⟩; have HQ := Aside0.mk hq; have hgq := HQ.out.below.block g hge |>.trans HGG.out; have hc1 : wq.cell? ⟨g, 1, none⟩ = some (.int .i64 at_) := (by simp [World.cell?, hgq]); have HG := Aside0.mk hgq; have HS := Aside0.mk (HQ.out.below.size); clear hq t0 HCALL hgq)) | (at_builtin; go_must (refine Kd.R_append k75 (w0 := wq) W1.heap.size rfl (.tmp 34) (.tmp 42) 72 TP (.agg #[.int .i32 0, .int .i64 0, .int .i64 0]) 24 rfl Tryd.underlying72 info_P rfl (by decide) (by decide) u6 pts (⟨r, at_, m⟩ : S75) [.int .i32 r, .int .i64 at_, .int .i64 m] (fun _ => True) (fun _ => False) rfl rfl (k75_mkM _ _ _ _) (fun _ h => h.elim) (fun _ _ => trivial) (Kd.R_below HRR.out HQ.out.below) (Below.refl _ _) (Nat.le_trans hs1 HS.out) (by omega) ?hh)))
          case hh =>
            intro v1 w2 hR2 hb2 hg2 hat2
            have hgw := (hb2.block g hgl).trans HG.out
            have hd1 : w2.cell? ⟨g, 1, none⟩ = some (.int .i64 at_) := by simp [World.cell?, hgw]
            have hf1 : w2.frozen? ⟨g, 1, none⟩ = false := by simp [World.frozen?, hgw]
            have HI2 := Aside0.mk (HNX.out wq w2 v1 HQ.out hR2 hb2)
            clear hR2 hb2 hg2 hat2 hgw HNX
            go_wp2
            go_roundw
            case rel => exact ⟨rest.drop m, HI2, HDR⟩
            case measure => simp [sliceLen]; omega
end Go.Proofs.YtiggjbclbdikmaaDoor.Ud

/-
  utf.Decode.
-/
namespace Go.Proofs.YtiggjbclbdikmaaDoor.Ud
set_option linter.unusedVariables false
set_option linter.unusedSimpArgs false
open Go.RowKit Go.Proofs.YtiggjbclbdikmaaDoorW.PrintWords Go.Proofs.YtiggjbclbdikmaaDoor.Hp Go.Proofs.YtiggjbclbdikmaaDoor.X Go.Proofs.YtiggjbclbdikmaaDoor.Ux

theorem k72_KM {w w' : World} {base : Nat} {ok : Nat → Prop} (x : S75) (cs : List Value) (h : k75.K w x cs) : k75.M w' base ok x cs := by
  obtain rfl := k75_open h
  exact k75_mkM _ _ _ _

theorem full_len (b : List Int) : (full b).length ≤ b.length := by
  have := dc_len b 0
  unfold full rest1
  rw [List.length_append]
  split
  · simp; omega
  · rename_i h
    have : (dc b 0).2.1.length ≠ 0 := fun e => h (List.eq_nil_of_length_eq_zero e)
    simp; omega

def DecPost (w : World) (bs : List Int) (e : Ending) (w' : World) : Prop := ∃ A c, e = .returned (.slice A (full bs).length c) ∧ (full bs).length ≤ c ∧ Kd.R k75 TP w' w.heap.size (fun _ => True) (.slice A (full bs).length c) (full bs) ∧ Below w.heap.size w w'

set_option maxRecDepth 100000 in
set_option maxHeartbeats 2000000 in
theorem Decode (w : World) (A : Option Addr) (n c : Nat) (bs : List Int) (hb : ReadsInt w .u8 A n bs) (hB : Bytes bs) (hlen : n ≤ 1000000000) :
    Calls Tryd.prog 58 #[.slice A n c] w (DecPost w bs) := by
  have hbn := hb.1
  have HB := Aside0.mk hb
  have HBY := Aside0.mk hB
  have HBN := Aside0.mk hbn
  clear hb hB hbn
  go_enter Tryd.func58, Tryd.ntmps58
  go_wp2_with (first | (go_at_call 66; refine (New w).mono ?_; rintro e w1 ⟨g, rfl, p0, p1, p2⟩; have P0 := Aside0.mk p0; have P1 := Aside0.mk p1; have P2 := Aside0.mk p2; clear p0 p1 p2) | (go_at_call 70; go_must (refine (Write w1 g w.heap.size [] 0 _ A n c bs P1.out (HB.out.below P2.out) HBY.out (by simp; omega) (by omega)).mono ?_; rintro e w2 ⟨lv, M, rfl, q1, q2, q3, q4⟩; have Q1 := Aside0.mk q1; have Q2 := Aside0.mk q2; have Q3 := Aside0.mk q3; have Q4 := Aside0.mk q4; clear q1 q2 q3 q4)) | (go_at_call 72; go_must (refine (Close w2 g w.heap.size _ _ _ Q3.out).mono ?_; rintro e w3 ⟨lv2, rfl, r1, r2, r3⟩; obtain ⟨A2, c2, rfl, hc2, hC2⟩ := Kd.R_reads r1; have R1 := Aside0.mk hC2; have R3 := Aside0.mk r3; clear r1 r2 r3 hC2)) | (at_builtin; go_must (refine Kd.R_append_rows k75 (Rr := k75.K w3) (w0 := w3) w.heap.size rfl (.tmp 7) (.tmp 9) 72 TP (.agg #[.int .i32 0, .int .i64 0, .int .i64 0]) 24 rfl Tryd.underlying72 info_P rfl (by decide) (by decide) lv (dc bs 0).1 (rest1 (dc bs 0).2.1 (dc bs 0).2.2) A2 _ c2 (fun _ => True) (fun _ => False) rfl rfl ?ho R1.out (fun x cs h => k72_KM x cs h) (fun _ h => h.elim) (fun _ _ => trivial) (Below.refl _ _) ?hb ?hl ?hh)))
  case ho =>
    have hg := P1.out.lt.1
    have h1 := Kd.R_bound Q2.out
    exact Kd.R_mono (Kd.R_lower (R_chg h1 R3.out (fun k hk he => by have := hk.2.1; omega)) P2.out.size) (fun _ _ => trivial)
  case hb => have h1 := P2.out.size; have h2 := Q4.out.size; have h3 := R3.out.size; omega
  case hl =>
    have h1 := dc_len bs 0
    have h2 := dc_rest bs 0
    have h3 : (rest1 (dc bs 0).2.1 (dc bs 0).2.2).length ≤ 1 := by unfold rest1; split <;> simp
    have h4 := HBN.out
    omega
  case hh =>
    intro v1 w4 hR hb4 hg4 hat4
    have hfull : (dc bs 0).1 ++ rest1 (dc bs 0).2.1 (dc bs 0).2.2 = full bs := rfl
    rw [hfull] at hR
    obtain ⟨A5, c5, rfl, hc5, hC5⟩ := Kd.R_reads hR
    have HR := Aside0.mk hR
    have HB4 := Aside0.mk hb4
    clear hR hb4 hg4 hat4 hC5 hfull
    have hL := HR.out
    obtain ⟨L, hLL⟩ : ∃ L, L = (full bs).length := ⟨_, rfl⟩
    rw [← hLL]
    have HLL := Aside0.mk hLL
    clear hLL hL
    go_wp2
    go_ret
    have e := HLL.out
    subst e
    refine ⟨A5, c5, rfl, hc5, HR.out, ?_⟩
    have b2 : Below w.heap.size w w2 := Q4.out.below_of P2.out (fun b hb => by rw [hb]; exact P0.out)
    have b3 : Below w.heap.size w w3 := R3.out.below_of b2 (fun b hb => by rw [hb]; exact P0.out)
    exact b3.trans HB4.out
end Go.Proofs.YtiggjbclbdikmaaDoor.Ud

/-
  norm.Runes: the code points of a text.
-/
namespace Go.Proofs.YtiggjbclbdikmaaDoor.X
set_option linter.unusedVariables false
set_option linter.unusedSimpArgs false
open Go.RowKit Go.Proofs.YtiggjbclbdikmaaDoorW.PrintWords Go.Proofs.YtiggjbclbdikmaaDoorW.PrintLast Go.Proofs.YtiggjbclbdikmaaDoorW.PrintMore Go.Proofs.YtiggjbclbdikmaaDoor.Ux Go.Proofs.YtiggjbclbdikmaaDoor.Ud

def runesOf (s : ByteArray) : List Int := (full (bytesOf s)).map (·.f0)
def norm_Runes.f (a0 : ByteArray) : Option (List Int) := if a0.size ≤ 1000000000 then some (runesOf a0) else none
theorem bytesOf_Bytes (s : ByteArray) : Bytes (bytesOf s) := fun x hx => by
  unfold bytesOf at hx
  obtain ⟨b, _, rfl⟩ := List.mem_map.1 hx
  have := b.toNat_lt
  omega
set_option maxHeartbeats 8000000 in
set_option maxRecDepth 100000 in
theorem norm_Runes.calls (a0 : ByteArray) (r : List Int) (w : World) (h : norm_Runes.f a0 = some r) :
    Calls Tryd.prog 27 #[.string a0] w fun e w' => ∃ v0_ : Value, e = .returned (v0_) ∧ Kd.R (Kd.int .i32) 21 w' w.heap.size (fun _ => True) v0_ r ∧ Below w.heap.size w w' := by
  unfold norm_Runes.f at h
  split at h
  case isFalse => exact absurd h (by simp)
  case isTrue hl =>
    have h := Option.some.inj h
    have HR := Aside0.mk h.symm
    have hl2 : a0.size ≤ 9223372036854775807 := by omega
    have HL := Aside0.mk hl
    have HL2 := Aside0.mk hl2
    clear h hl hl2
    have kb := fun W => print_bytes (P := Tryd.prog) 9 27 5 Tryd.underlying9 Tryd.underlying27 Tryd.underlying5 a0 W
    have HB := Aside0.mk (Below.refl w.heap.size w)
    go_enter Tryd.func27, Tryd.ntmps27
    go_wp2_with (first | (go_at_call 58; go_must (refine (Decode (Lib.bytesWorld w 5 a0) _ _ _ (bytesOf a0) (bytes_reads w 5 a0 HL2.out) (bytesOf_Bytes a0) HL.out).mono ?_; rintro e w1 ⟨A, c, rfl, p0, p1, p2⟩; have HC := Aside0.mk p0; have HO := Aside0.mk (Kd.R_lower p1 (bytes_below (Below.refl w.heap.size w) (Nat.le_refl _) 5 a0).size); have HB1 := Aside0.mk ((bytes_below (Below.refl w.heap.size w) (Nat.le_refl _) 5 a0).trans (p2.mono (bytes_below (Below.refl w.heap.size w) (Nat.le_refl _) 5 a0).size)); clear p0 p1 p2)))
    have hlen : (full (bytesOf a0)).length ≤ 1000000000 := Nat.le_trans (full_len _) (by rw [bytesOf_length]; exact HL.out)
    have HLN := Aside0.mk hlen
    obtain ⟨ps, hps⟩ : ∃ ps, ps = full (bytesOf a0) := ⟨_, rfl⟩
    rw [← hps] at HC HO HLN ⊢
    have HR2 := Aside0.mk (show r = ps.map (·.f0) by rw [HR.out, hps]; rfl)
    clear hps HR hlen
    go_loopw [3, 10] (fun v3 v10 w' => ∃ (i : Nat) (xs : List Int), v10 = .int .i64 i ∧ i ≤ ps.length ∧ Aside0 (xs = (ps.take i).map (·.f0)) ∧ Aside0 (Kd.R (Kd.int .i32) 21 w' w.heap.size (fun _ => True) v3 xs) ∧ Aside0 (Kd.R k75 75 w' w.heap.size (fun _ => True) (.slice A ps.length c) ps) ∧ Aside0 (Below w.heap.size w w')) (fun _ v10 _ => ps.length - (intOf v10).toNat)
    case atStart => exact ⟨0, [], rfl, Nat.zero_le _, ⟨by simp⟩, ⟨Kd.R_nil _ _ _ _ _⟩, HO, HB1⟩
    case round =>
      clear HO HB1
      obtain ⟨i, xs, rfl, hi, HX, HO_3, HO_4, HB1⟩ := hrel
      by_cases hlt : i < ps.length
      · have hd : decide ((i : Int) < (ps.length : Int)) = true := decide_eq_true (by omega)
        have hd2 : decide (i < ps.length) = true := decide_eq_true hlt
        obtain ⟨ad, rfl, h1, h2, h3⟩ := at_T75 (Kd.R_reads' HO_4.out).2.2 (i : Int) (by omega) (by omega)
        have hrd : rd_T75 ps (i : Int) = ps[i] := by unfold rd_T75; simp [List.getD_eq_getElem?_getD, List.getElem?_eq_getElem hlt]
        rw [hrd] at h1 h2 h3
        simp only [Int.toNat_natCast] at h1 h2 h3
        have hpl := HLN.out
        have hn0 : (0 : Int) ≤ (i : Int) := by omega
        have hn1 : (i : Int) < (ps.length : Int) := by omega
        obtain ⟨y, hy⟩ : ∃ y : List Int, y = xs ++ [ps[i].f0] := ⟨_, rfl⟩
        have HY := Aside0.mk hy
        have LM := Aside0.mk (show xs.length < 35184372088832 by have := HLN.out; rw [HX.out, List.length_map, List.length_take]; omega)
        have HXl := Aside0.mk (show y = (ps.take (i + 1)).map (·.f0) by rw [hy, HX.out, List.take_succ_eq_append_getElem hlt, List.map_append]; rfl)
        clear hy hrd
        go_wp2_with (first | (at_builtin; go_must (refine Kd.R_append (Kd.int .i32) (w0 := w) w.heap.size rfl (.tmp 14) (.tmp 17) 22 21 (.int .i32 0) 4 rfl Tryd.underlying22 info21 rfl (by decide) (by omega) u3 xs (ps[i].f0) [.int .i32 (ps[i].f0)] (fun _ => True) (fun _ => False) rfl (congrArg (fun k => Value.slice (some ⟨k, 0, none⟩) 1 1) (Array.size_push _).symm) ?aP (fun _ hk => hk.elim) ?aF ?aO ?aB ?aS ?aL ?_; (case aP => exact rfl); (case aB => exact (by repeat (first | (with_reducible first | exact HB1.out | apply below_alloc | apply pw_below_drewN | apply below_drew1) | exact HB1.out))); (case aF => exact (fun _ _ => trivial)); (case aO => exact (by (with_reducible repeat (first | apply Kd.R_alloc | apply Kd.R_drewN | apply Kd.R_drew)); exact HO_3.out)); (case aS => exact (below_size (by repeat (first | (with_reducible first | exact HB1.out | apply below_alloc | apply pw_below_drewN | apply below_drew1) | exact HB1.out)))); (case aL => have := LM.out; omega); intro v287 w8 ho hb hg hat; rw [← HY.out] at ho; have n0_ := Aside0.mk (Kd.R_over' (by (with_reducible repeat (first | apply Kd.R_alloc | apply Kd.R_drewN | apply Kd.R_drew)); exact HO_4.out) (Kd.R_typed (by (with_reducible repeat (first | apply Kd.R_alloc | apply Kd.R_drewN | apply Kd.R_drew)); exact HO_3.out)) (by decide) hg); have n1_ := Aside0.mk (hb); have n2_ := Aside0.mk (ho); clear HO_4; clear HB1; clear HO_3; have HO_4 := n0_; have HB1 := n1_; have HO288 := n2_; clear n0_ n1_ n2_; clear ho hb hg hat)))

        go_roundw
        case rel => exact ⟨i + 1, y, by first | go_num | (rw [show wrap64 ((i : Int) + 1) = ((i + 1 : Nat) : Int) by rw [wrap64_in] <;> omega]), by omega, HXl, HO288, HO_4, HB1⟩
        case measure => simp [intOf] <;> omega
      · have hd : decide ((i : Int) < (ps.length : Int)) = false := decide_eq_false (by omega)
        have hd2 : decide (i < ps.length) = false := decide_eq_false hlt
        go_wp2

        go_ret
        refine ⟨_, rfl, ?_, HB1.out⟩
        have h := HX.out
        rw [show i = ps.length by omega, List.take_length] at h
        rw [HR2.out, ← h]
        exact HO_3.out
end Go.Proofs.YtiggjbclbdikmaaDoor.X

-- Written by a program of this session (xprint.py), over the kit's print.
namespace Go.Proofs.YtiggjbclbdikmaaDoor.X
open Go.RowKit Go.Proofs.YtiggjbclbdikmaaDoorW.PrintWords Go.Proofs.YtiggjbclbdikmaaDoorW.PrintLast Go.Proofs.YtiggjbclbdikmaaDoorW.PrintMore
attribute [local go_sem] max2_int min2_int max_two min_two max_three min_three max_four min_four   -- for this text's walks alone
set_option linter.unusedVariables false
set_option linter.unusedSimpArgs false

/-! ### utf_Valid: function 79 -/
def utf_Valid.f (a0 : Int) : Option (Bool) := if a0 ≥ 0 then (if a0 ≤ 1114111 then (if a0 < 55296 then (some true) else (some (decide (a0 > 57343)))) else (some false)) else (some false)
set_option maxHeartbeats 8000000 in
set_option maxRecDepth 100000 in
theorem utf_Valid.calls (a0 : Int) (r : Bool) (w : World) (h : utf_Valid.f a0 = some r) :
  Calls Tryd.prog 79 #[.int .i32 a0] w fun e w' => e = .returned (.bool r) ∧ Drawn0 w w' := by
 have H : (if a0 ≥ 0 then (if a0 ≤ 1114111 then (if a0 < 55296 then (some true) else (some (decide (a0 > 57343)))) else (some false)) else (some false)) = some r := h
 clear h
 by_cases c2 : a0 ≥ 0
 ·rw [if_pos c2] at H
  have c2b0 : decide (0 ≤ a0) = true := decide_eq_true c2
  clear c2
  by_cases c3 : a0 ≤ 1114111
  ·rw [if_pos c3] at H
   have c3b0 : decide (a0 ≤ 1114111) = true := decide_eq_true c3
   clear c3
   by_cases c4 : a0 < 55296
   ·rw [if_pos c4] at H
    have c4b0 : decide (a0 < 55296) = true := decide_eq_true c4
    clear c4
    obtain rfl := Option.some.inj H
    go_enter Tryd.func79, Tryd.ntmps79
    go_wp2
    go_ret
    exact ⟨by first | rfl | (simp; done) | (simp [*]; done), by repeat (first | exact Drawn0.refl _ | apply Drawn0.step)⟩
   ·rw [if_neg c4] at H
    have c4b0 : decide (a0 < 55296) = false := decide_eq_false c4
    clear c4
    obtain rfl := Option.some.inj H
    go_enter Tryd.func79, Tryd.ntmps79
    go_wp2
    go_ret
    exact ⟨by first | rfl | (simp; done) | (simp [*]; done), by repeat (first | exact Drawn0.refl _ | apply Drawn0.step)⟩
  ·rw [if_neg c3] at H
   have c3b0 : decide (a0 ≤ 1114111) = false := decide_eq_false c3
   clear c3
   obtain rfl := Option.some.inj H
   go_enter Tryd.func79, Tryd.ntmps79
   go_wp2
   go_ret
   exact ⟨by first | rfl | (simp; done) | (simp [*]; done), by repeat (first | exact Drawn0.refl _ | apply Drawn0.step)⟩
 ·rw [if_neg c2] at H
  have c2b0 : decide (0 ≤ a0) = false := decide_eq_false c2
  clear c2
  obtain rfl := Option.some.inj H
  go_enter Tryd.func79, Tryd.ntmps79
  go_wp2
  go_ret
  exact ⟨by first | rfl | (simp; done) | (simp [*]; done), by repeat (first | exact Drawn0.refl _ | apply Drawn0.step)⟩

end Go.Proofs.YtiggjbclbdikmaaDoor.X

-- Written by a program of this session (xprint.py), over the kit's print.
namespace Go.Proofs.YtiggjbclbdikmaaDoor.X
open Go.RowKit Go.Proofs.YtiggjbclbdikmaaDoorW.PrintWords Go.Proofs.YtiggjbclbdikmaaDoorW.PrintLast Go.Proofs.YtiggjbclbdikmaaDoorW.PrintMore
attribute [local go_sem] max2_int min2_int max_two min_two max_three min_three max_four min_four   -- for this text's walks alone
set_option linter.unusedVariables false
set_option linter.unusedSimpArgs false

/-! ### utf_Encode: function 56 -/
mutual
def utf_Encode.l0 : Nat → List Int → List Int → Int → Int → Option (List Int)
 | 0, _, _, _, _ => none
 | k + 1, x3, x6, x7, x8 => if x8 < x7 then (if 0 ≤ x8 then (if x8 < (x6.length : Int) then ((utf_Valid.f (rd x6 x8)).bind fun t154 => (if t154 = true then (utf_Encode.j1 k x3 (rd x6 x8) x6 x7 x8) else (utf_Encode.j1 k x3 65533 x6 x7 x8))) else (none)) else (none)) else (some x3)
def utf_Encode.j1 : Nat → List Int → Int → List Int → Int → Int → Option (List Int)
 | 0, _, _, _, _, _ => none
 | k + 1, x3, x5, x6, x7, x8 => if x5 < 128 then (if x3.length < 140737488355328 then (utf_Encode.l0 k (x3 ++ [(x5) % 256]) x6 x7 (wrap64 (x8 + 1))) else (none)) else (if x5 < 2048 then ((some (([Go.bits .or .u8 192 ((x5 / 64) % 256), Go.bits .or .u8 128 ((Go.bits .and .i32 x5 63) % 256)] : List Int) : List Int)).bind fun y158 => (if x3.length + y158.length < 140737488355328 then (utf_Encode.l0 k (x3 ++ y158) x6 x7 (wrap64 (x8 + 1))) else (none))) else (if x5 < 65536 then ((some (([Go.bits .or .u8 224 ((x5 / 4096) % 256), Go.bits .or .u8 128 ((Go.bits .and .i32 (x5 / 64) 63) % 256), Go.bits .or .u8 128 ((Go.bits .and .i32 x5 63) % 256)] : List Int) : List Int)).bind fun y164 => (if x3.length + y164.length < 140737488355328 then (utf_Encode.l0 k (x3 ++ y164) x6 x7 (wrap64 (x8 + 1))) else (none))) else ((some (([Go.bits .or .u8 240 ((x5 / 262144) % 256), Go.bits .or .u8 128 ((Go.bits .and .i32 (x5 / 4096) 63) % 256), Go.bits .or .u8 128 ((Go.bits .and .i32 (x5 / 64) 63) % 256), Go.bits .or .u8 128 ((Go.bits .and .i32 x5 63) % 256)] : List Int) : List Int)).bind fun y170 => (if x3.length + y170.length < 140737488355328 then (utf_Encode.l0 k (x3 ++ y170) x6 x7 (wrap64 (x8 + 1))) else (none)))))
end
def utf_Encode.f (k : Nat) (l0 : List Int) : Option (List Int) := utf_Encode.l0 k ([] : List Int) l0 (l0.length : Int) 0
theorem utf_Encode.mono_l : ∀ k, (∀ y0 y1 y2 y3, LeO (utf_Encode.l0 k y0 y1 y2 y3) (utf_Encode.l0 (k + 1) y0 y1 y2 y3)) ∧ (∀ y0 y1 y2 y3 y4, LeO (utf_Encode.j1 k y0 y1 y2 y3 y4) (utf_Encode.j1 (k + 1) y0 y1 y2 y3 y4))
 | 0 => ⟨fun _ _ _ _ r h => by simp [utf_Encode.l0] at h, fun _ _ _ _ _ r h => by simp [utf_Encode.j1] at h⟩
 | k + 1 => by
  obtain ⟨ih0, ih1⟩ := utf_Encode.mono_l k
  refine ⟨?_, ?_⟩
  ·intro y0 y1 y2 y3
   unfold utf_Encode.l0
   repeat' first
   | (with_reducible exact ih0 _ _ _ _)
   | (with_reducible exact ih1 _ _ _ _ _)
   | (with_reducible exact LeO.refl _)
   | (with_reducible exact LeO.none _)
   | (with_reducible refine LeO.ite ?_ ?_)
   | (with_reducible refine LeO.bind ?_ (fun _ => ?_))
   | exact ih0 _ _ _ _
   | exact ih1 _ _ _ _ _
   | exact LeO.none _
   | refine LeO.ite ?_ ?_
   | refine LeO.bind ?_ (fun _ => ?_)
  ·intro y0 y1 y2 y3 y4
   unfold utf_Encode.j1
   repeat' first
   | (with_reducible exact ih0 _ _ _ _)
   | (with_reducible exact ih1 _ _ _ _ _)
   | (with_reducible exact LeO.refl _)
   | (with_reducible exact LeO.none _)
   | (with_reducible refine LeO.ite ?_ ?_)
   | (with_reducible refine LeO.bind ?_ (fun _ => ?_))
   | exact ih0 _ _ _ _
   | exact ih1 _ _ _ _ _
   | exact LeO.none _
   | refine LeO.ite ?_ ?_
   | refine LeO.bind ?_ (fun _ => ?_)
theorem utf_Encode.mono : ∀ a0 k, LeO (utf_Encode.f k a0) (utf_Encode.f (k + 1) a0) := by
 intro a0 k
 obtain ⟨ih0, ih1⟩ := utf_Encode.mono_l k
 unfold utf_Encode.f
 repeat' first
   | (with_reducible exact ih0 _ _ _ _)
   | (with_reducible exact ih1 _ _ _ _ _)
   | (with_reducible exact LeO.refl _)
   | (with_reducible exact LeO.none _)
   | (with_reducible refine LeO.ite ?_ ?_)
   | (with_reducible refine LeO.bind ?_ (fun _ => ?_))
   | exact ih0 _ _ _ _
   | exact ih1 _ _ _ _ _
   | exact LeO.none _
   | refine LeO.ite ?_ ?_
   | refine LeO.bind ?_ (fun _ => ?_)
set_option maxHeartbeats 8000000 in
set_option maxRecDepth 100000 in
theorem utf_Encode.calls (k : Nat) (A0 : Option Addr) (c0 : Nat) (l0 : List Int) (r : List Int) (w : World) (hr0 : Kd.C (Kd.int .i32) w A0 l0.length l0) (hc0 : l0.length ≤ c0) (h : utf_Encode.f k l0 = some r) :
  Calls Tryd.prog 56 #[.slice A0 l0.length c0] w fun e w' => ∃ v0_ : Value, e = .returned (v0_) ∧ Kd.R (Kd.int .u8) 5 w' w.heap.size (fun _ => True) v0_ r ∧ Below w.heap.size w w' := by
 have HR0 := Aside0.mk hr0
 have HC0 := Aside0.mk hc0
 clear hr0 hc0
 have HB := Aside0.mk (Below.refl w.heap.size w)
 have H : (utf_Encode.l0 k ([] : List Int) l0 (l0.length : Int) 0) = some r := h
 clear h
 have H' := Aside0.mk H
 clear H
 go_enter Tryd.func56, Tryd.ntmps56
 go_wp2
 go_loopg [3, 8] k (fun kq v3 v8 w' => ∃ (x3_1 : List Int) (x8_1 : Int), v8 = .int .i64 x8_1 ∧ Aside0 (utf_Encode.l0 kq x3_1 l0 (l0.length : Int) x8_1 = some r) ∧ Aside0 (kq ≤ k) ∧ Aside0 (Kd.R (Kd.int .u8) 5 w' w.heap.size (fun _ => True) v3 x3_1) ∧ Aside0 (Below w.heap.size w w'))
 case atStart => exact ⟨(([] : List Int)), (0), (by first | rfl | (simp; done) | (simp [*]; done)), H', ⟨Nat.le_refl _⟩, ⟨by first | exact Kd.R_nil _ _ _ _ _ | exact Kd.N_nil _ _ _ _ _ | exact Kd.V_nil _ _ _ _ _ | exact Kd.Q_nil _ _ _ _ _ | exact Kd.S_nil _ _ _ _ _⟩, ⟨by repeat (first | (with_reducible first | exact HB.out | apply below_alloc | apply pw_below_drewN | apply below_drew1) | exact HB.out)⟩⟩
 case round =>
  clear H'
  obtain ⟨x3_1, x8_1, rfl, HA, HK1, HO_3, HB⟩ := hrel
  cases gk with
  | zero => exact absurd HA.out (by simp [utf_Encode.l0])
  | succ k1 =>
   have H := HA.out
   clear HA
   simp only [utf_Encode.l0] at H
   by_cases c2 : x8_1 < (l0.length : Int)
   ·rw [if_pos c2] at H
    have c2b0 : decide (x8_1 < (l0.length : Int)) = true := decide_eq_true c2
    clear c2
    by_cases c3 : 0 ≤ x8_1
    ·rw [if_pos c3] at H
     have c3b0 : decide (0 ≤ x8_1) = true := decide_eq_true c3
     clear c3
     by_cases c4 : x8_1 < (l0.length : Int)
     ·rw [if_pos c4] at H
      have c4b0 : decide (x8_1 < (l0.length : Int)) = true := decide_eq_true c4
      clear c4
      replace H := Option.bind_eq_some_iff.mp H
      obtain ⟨t154, A50, H⟩ := H
      replace H : (if t154 = true then (utf_Encode.j1 k1 x3_1 (rd l0 x8_1) l0 (l0.length : Int) x8_1) else (utf_Encode.j1 k1 x3_1 65533 l0 (l0.length : Int) x8_1)) = some r := H
      have A5 := Aside0.mk A50
      clear A50
      have HC6 := Aside0.mk H
      clear H
      have p153 : 0 ≤ (x8_1 : Int) := of_decide_eq_true (by first | (with_reducible assumption) | assumption)
      have q153 : x8_1 < (l0.length : Int) := of_decide_eq_true (by first | (with_reducible assumption) | assumption)
      obtain ⟨ad153, e153, hx153_0⟩ := Kd.at_int HR0.out x8_1 p153 q153
      cases e153
      replace hx153_0 := (HB.out.cell (World.block_lt_of_cell? w _ hx153_0)).trans hx153_0
      replace p153 := eq_true p153
      replace q153 := eq_true q153
      go_upto_if 14 with (first | ((with_reducible refine gate_callee (f := 79) rfl ?_); refine goesL_ (some 13) rfl rfl Tryd.func79 (by kernel_rfl) rfl #[.int .i32 (rd l0 x8_1)] rfl (by (try simp only [List.map_toArray, List.map_cons, List.map_nil]); first | done | rfl | (simp only [List.length_drop, List.length_take]; rfl)) ?_; (with_reducible refine (utf_Valid.calls (rd l0 x8_1) t154 _ A5.out).mono ?_); rintro e w' ⟨rfl, ⟨nd, rfl⟩⟩; refine ⟨_, rfl, ?_⟩))
      (try simp only [Act.put, List.setIfInBounds_toArray, List.set_cons_zero, List.set_cons_succ])
      go_cut [5] (fun v5 wc => ∃ (kq : Nat) (x5_5 : Int), v5 = .int .i32 x5_5 ∧ Aside0 (utf_Encode.j1 kq x3_1 x5_5 l0 (l0.length : Int) x8_1 = some r) ∧ Aside0 (kq ≤ k1) ∧ Aside0 (Kd.R (Kd.int .u8) 5 wc w.heap.size (fun _ => True) u3 x3_1) ∧ Aside0 (Below w.heap.size w wc))
      case first =>
       have H := HC6.out
       clear HC6
       by_cases c7 : t154 = true
       ·subst c7
        have H1 : (utf_Encode.j1 k1 x3_1 (rd l0 x8_1) l0 (l0.length : Int) x8_1) = some r := by rw [if_pos rfl] at H; exact H
        clear H
        have H := H1
        clear H1
        have H' := Aside0.mk H
        clear H
        go_wp2
        go_meet
        case rel => exact ⟨_, (rd l0 x8_1), (by first | rfl | (simp; done) | (simp [*]; done)), H', ⟨by have := HK1.out; first | omega | exact Nat.le_refl _⟩, ⟨by (with_reducible repeat (first | apply Kd.R_alloc | apply Kd.R_drewN | apply Kd.R_drew)); exact HO_3.out⟩, ⟨by repeat (first | (with_reducible first | exact HB.out | apply below_alloc | apply pw_below_drewN | apply below_drew1) | exact HB.out)⟩⟩
       ·replace c7 := Bool.eq_false_iff.mpr c7
        subst c7
        have H1 : (utf_Encode.j1 k1 x3_1 65533 l0 (l0.length : Int) x8_1) = some r := by rw [if_neg (show ¬ (false = true) by decide)] at H; exact H
        clear H
        have H := H1
        clear H1
        have H' := Aside0.mk H
        clear H
        go_wp2
        go_meet
        case rel => exact ⟨_, (65533), (by first | rfl | (simp; done) | (simp [*]; done)), H', ⟨by have := HK1.out; first | omega | exact Nat.le_refl _⟩, ⟨by (with_reducible repeat (first | apply Kd.R_alloc | apply Kd.R_drewN | apply Kd.R_drew)); exact HO_3.out⟩, ⟨by repeat (first | (with_reducible first | exact HB.out | apply below_alloc | apply pw_below_drewN | apply below_drew1) | exact HB.out)⟩⟩
      case rest =>
       clear HC6
       try clear p1
       try clear q1
       try clear hx1
       try clear c2
       try clear c2b0
       try clear p2
       try clear c3
       try clear c3b0
       try clear c4
       try clear c4b0
       try clear c5
       try clear c7
       try clear hx153_0
       try clear p153
       try clear q153
       obtain ⟨kq, x5_5, rfl, HA, HJ5, HO_3, HB⟩ := hcut
       cases kq with
       | zero => exact absurd HA.out (by simp [utf_Encode.j1])
       | succ kj5 =>
        have H := HA.out
        clear HA
        simp only [utf_Encode.j1] at H
        by_cases c8 : x5_5 < 128
        ·rw [if_pos c8] at H
         have c8b0 : decide (x5_5 < 128) = true := decide_eq_true c8
         clear c8
         by_cases c9 : x3_1.length < 140737488355328
         ·rw [if_pos c9] at H
          have LMc9 := Aside0.mk c9
          clear c9
          obtain ⟨y155, hy155⟩ : ∃ y_ : List Int, y_ = (x3_1 ++ [(x5_5) % 256]) := ⟨_, rfl⟩
          replace H : (utf_Encode.l0 kj5 y155 l0 (l0.length : Int) (wrap64 (x8_1 + 1))) = some r := by first | (rw [hy155]; with_reducible exact H) | (have H2_ := (Option.bind_some _ _).symm.trans H; rw [hy155]; with_reducible exact H2_) | (have H2_ := (Option.bind_some _ _).symm.trans H; with_reducible exact H2_) | with_reducible exact H | (rw [hy155]; exact H) | exact H
          have Ny155 := Aside0.mk hy155
          clear hy155
          have H' := Aside0.mk H
          clear H
          go_wp2_with (first | ((with_reducible refine gate_builtin (b := .append) (xs := #[.tmp 39, .tmp 42]) rfl ?_); at_builtin; refine Kd.R_append (Kd.int .u8) (w0 := w) w.heap.size rfl (.tmp 39) (.tmp 42) 27 5 (.int .u8 0) 1 rfl Tryd.underlying27 info5 rfl (by decide) (by omega) u3 x3_1 ((x5_5) % 256) [.int .u8 ((x5_5) % 256)] (fun _ => True) (fun _ => False) rfl rfl ?aP (fun _ hk => hk.elim) ?aF ?aO ?aB ?aS ?aL ?_; (case aP => exact rfl); (case aB => exact (by repeat (first | (with_reducible first | exact HB.out | apply below_alloc | apply pw_below_drewN | apply below_drew1) | exact HB.out))); (case aF => exact (fun _ _ => trivial)); (case aO => exact (by (with_reducible repeat (first | apply Kd.R_alloc | apply Kd.R_drewN | apply Kd.R_drew)); exact HO_3.out)); (case aS => exact (below_size (by repeat (first | (with_reducible first | exact HB.out | apply below_alloc | apply pw_below_drewN | apply below_drew1) | exact HB.out)))); (case aL => have := LMc9.out; omega); intro v156 w10 ho hb hg hat; rw [← Ny155.out] at ho; have n0_ := Aside0.mk (hb); have n1_ := Aside0.mk (ho); clear HB; clear HO_3; have HB := n0_; have HO157 := n1_; clear n0_ n1_; clear ho hb hg hat))
          go_roundg kj5
          case measure => have := HK1.out; have := HJ5.out; omega
          case rel => exact ⟨(y155), (wrap64 (x8_1 + 1)), (by first | rfl | (simp; done) | (simp [*]; done)), H', ⟨by have := HK1.out; have := HJ5.out; omega⟩, ⟨by (with_reducible repeat (first | apply Kd.R_alloc | apply Kd.R_drewN | apply Kd.R_drew)); exact HO157.out⟩, ⟨by repeat (first | (with_reducible first | exact HB.out | apply below_alloc | apply pw_below_drewN | apply below_drew1) | exact HB.out)⟩⟩
         ·rw [if_neg c9] at H
          exact absurd H (by simp)
        ·rw [if_neg c8] at H
         have c8b0 : decide (x5_5 < 128) = false := decide_eq_false c8
         clear c8
         by_cases c11 : x5_5 < 2048
         ·rw [if_pos c11] at H
          have c11b0 : decide (x5_5 < 2048) = true := decide_eq_true c11
          clear c11
          obtain ⟨y158, hy158⟩ : ∃ y_ : List Int, y_ = (([Go.bits .or .u8 192 ((x5_5 / 64) % 256), Go.bits .or .u8 128 ((Go.bits .and .i32 x5_5 63) % 256)] : List Int)) := ⟨_, rfl⟩
          replace H : (if x3_1.length + y158.length < 140737488355328 then (utf_Encode.l0 kj5 (x3_1 ++ y158) l0 (l0.length : Int) (wrap64 (x8_1 + 1))) else (none)) = some r := by first | (rw [hy158]; with_reducible exact H) | (have H2_ := (Option.bind_some _ _).symm.trans H; rw [hy158]; with_reducible exact H2_) | (have H2_ := (Option.bind_some _ _).symm.trans H; with_reducible exact H2_) | with_reducible exact H | (rw [hy158]; exact H) | exact H
          have Ny158 := Aside0.mk hy158
          clear hy158
          by_cases c12 : x3_1.length + y158.length < 140737488355328
          ·rw [if_pos c12] at H
           have LMc12 := Aside0.mk c12
           clear c12
           obtain ⟨y161, hy161⟩ : ∃ y_ : List Int, y_ = (x3_1 ++ y158) := ⟨_, rfl⟩
           replace H : (utf_Encode.l0 kj5 y161 l0 (l0.length : Int) (wrap64 (x8_1 + 1))) = some r := by first | (rw [hy161]; with_reducible exact H) | (have H2_ := (Option.bind_some _ _).symm.trans H; rw [hy161]; with_reducible exact H2_) | (have H2_ := (Option.bind_some _ _).symm.trans H; with_reducible exact H2_) | with_reducible exact H | (rw [hy161]; exact H) | exact H
           have Ny161 := Aside0.mk hy161
           clear hy161
           have H' := Aside0.mk H
           clear H
           go_wp2_with (first | ((with_reducible refine gate_dst (N := 56) rfl ?_); refine Kd.R_lit (Kd.int .u8) _ 5 ?hg (N := 56) ?hd (xs := ([Go.bits .or .u8 192 ((x5_5 / 64) % 256), Go.bits .or .u8 128 ((Go.bits .and .i32 x5_5 63) % 256)] : List Int)) (inner := [.int .u8 (Go.bits .or .u8 192 ((x5_5 / 64) % 256)), .int .u8 (Go.bits .or .u8 128 ((Go.bits .and .i32 x5_5 63) % 256))]) (ok := fun _ => True) (okp := fun _ => True) ?hr ?hp (fun _ hk => hk) trivial (Below.refl _ _) (Nat.le_refl _) (by simp) ?_; (case hd => rfl); (case hg => rfl); (case hr => first | (go_simp; done) | (go_simp; rfl)); (case hp => exact (Reps.one (show Kd.M (Kd.int .u8) _ _ _ (Go.bits .or .u8 192 ((x5_5 / 64) % 256)) [.int .u8 (Go.bits .or .u8 192 ((x5_5 / 64) % 256))] from rfl) (Reps.one (show Kd.M (Kd.int .u8) _ _ _ (Go.bits .or .u8 128 ((Go.bits .and .i32 x5_5 63) % 256)) [.int .u8 (Go.bits .or .u8 128 ((Go.bits .and .i32 x5_5 63) % 256))] from rfl) (Reps.none _ _)))); intro v159 w13 ho14 hb hg_ hnew_; clear hg_ hnew_; (first | rw [← Ny158.out] at ho14 | (simp only [Int.reduceToNat] at ho14; rw [← Ny158.out] at ho14)); have n0_ := Aside0.mk (Kd.R_elder' (by (with_reducible repeat (first | apply Kd.R_alloc | apply Kd.R_drewN | apply Kd.R_drew)); exact HO_3.out) (Kd.R_base ho14) hb); have n1_ := Aside0.mk (Kd.R_lower (Kd.R_new' ho14 (Kd.R_lt (by (with_reducible repeat (first | apply Kd.R_alloc | apply Kd.R_drewN | apply Kd.R_drew)); exact HO_3.out))) (below_size (by repeat (first | (with_reducible first | exact HB.out | apply below_alloc | apply pw_below_drewN | apply below_drew1) | exact HB.out)))); have n2_ := Aside0.mk (below_step (by repeat (first | (with_reducible first | exact HB.out | apply below_alloc | apply pw_below_drewN | apply below_drew1) | exact HB.out)) hb); clear HO_3; clear HB; have HO_3 := n0_; have HO160 := n1_; have HB := n2_; clear n0_ n1_ n2_; clear hb ho14; obtain ⟨Ao16, co16, eo16⟩ := Kd.R_slice HO160.out; subst eo16) | ((with_reducible refine gate_builtin (b := .append) (xs := #[.tmp 47, .tmp 56]) rfl ?_); at_builtin; refine Kd.R_append_rows (Kd.int .u8) (w0 := w) w.heap.size rfl (.tmp 47) (.tmp 56) 27 5 (.int .u8 0) 1 rfl Tryd.underlying27 info5 rfl (by decide) (by omega) u3 x3_1 y158 _ _ _ (fun k_ => some k_ ≠ (.slice Ao16 y158.length co16 : Value).ownBlock) (fun _ => False) rfl rfl ?aO ?aR (fun _ _ h => h) (fun _ h => h.elim) ?aF ?aB ?aS ?aL ?_; (case aR => repeat (first | exact (Kd.R_reads' HO160.out).2.2 | (with_reducible refine Kd.C_alloc ?_ _) | (with_reducible refine Kd.C_drewN ?_ _) | (with_reducible refine Kd.C_drew ?_))); (case aB => exact (by repeat (first | (with_reducible first | exact HB.out | apply below_alloc | apply pw_below_drewN | apply below_drew1) | exact HB.out))); (case aF => exact (fun k_ hk => Kd.fresh' (Kd.R_lt (by (with_reducible repeat (first | apply Kd.R_alloc | apply Kd.R_drewN | apply Kd.R_drew)); exact HO160.out)) k_ hk)); (case aO => exact (by (with_reducible repeat (first | apply Kd.R_alloc | apply Kd.R_drewN | apply Kd.R_drew)); exact Kd.R_mono HO_3.out (fun _ hk => hk.2))); (case aS => exact (below_size (by repeat (first | (with_reducible first | exact HB.out | apply below_alloc | apply pw_below_drewN | apply below_drew1) | exact HB.out)))); (case aL => have := LMc12.out; omega); intro v162 w15 ho hb hg hat; rw [← Ny161.out] at ho; have n0_ := Aside0.mk (Kd.R_after (ok := (fun _ => True)) (by (with_reducible repeat (first | apply Kd.R_alloc | apply Kd.R_drewN | apply Kd.R_drew)); exact HO160.out) hg hat); have n1_ := Aside0.mk (hb); have n2_ := Aside0.mk (ho); clear HO160; clear HB; clear HO_3; have HO160 := n0_; have HB := n1_; have HO163 := n2_; clear n0_ n1_ n2_; clear ho hb hg hat))
           go_roundg kj5
           case measure => have := HK1.out; have := HJ5.out; omega
           case rel => exact ⟨(y161), (wrap64 (x8_1 + 1)), (by first | rfl | (simp; done) | (simp [*]; done)), H', ⟨by have := HK1.out; have := HJ5.out; omega⟩, ⟨by (with_reducible repeat (first | apply Kd.R_alloc | apply Kd.R_drewN | apply Kd.R_drew)); exact Kd.R_mono HO163.out (fun _ hk => trivial)⟩, ⟨by repeat (first | (with_reducible first | exact HB.out | apply below_alloc | apply pw_below_drewN | apply below_drew1) | exact HB.out)⟩⟩
          ·rw [if_neg c12] at H
           exact absurd H (by simp)
         ·rw [if_neg c11] at H
          have c11b0 : decide (x5_5 < 2048) = false := decide_eq_false c11
          clear c11
          by_cases c17 : x5_5 < 65536
          ·rw [if_pos c17] at H
           have c17b0 : decide (x5_5 < 65536) = true := decide_eq_true c17
           clear c17
           obtain ⟨y164, hy164⟩ : ∃ y_ : List Int, y_ = (([Go.bits .or .u8 224 ((x5_5 / 4096) % 256), Go.bits .or .u8 128 ((Go.bits .and .i32 (x5_5 / 64) 63) % 256), Go.bits .or .u8 128 ((Go.bits .and .i32 x5_5 63) % 256)] : List Int)) := ⟨_, rfl⟩
           replace H : (if x3_1.length + y164.length < 140737488355328 then (utf_Encode.l0 kj5 (x3_1 ++ y164) l0 (l0.length : Int) (wrap64 (x8_1 + 1))) else (none)) = some r := by first | (rw [hy164]; with_reducible exact H) | (have H2_ := (Option.bind_some _ _).symm.trans H; rw [hy164]; with_reducible exact H2_) | (have H2_ := (Option.bind_some _ _).symm.trans H; with_reducible exact H2_) | with_reducible exact H | (rw [hy164]; exact H) | exact H
           have Ny164 := Aside0.mk hy164
           clear hy164
           by_cases c18 : x3_1.length + y164.length < 140737488355328
           ·rw [if_pos c18] at H
            have LMc18 := Aside0.mk c18
            clear c18
            obtain ⟨y167, hy167⟩ : ∃ y_ : List Int, y_ = (x3_1 ++ y164) := ⟨_, rfl⟩
            replace H : (utf_Encode.l0 kj5 y167 l0 (l0.length : Int) (wrap64 (x8_1 + 1))) = some r := by first | (rw [hy167]; with_reducible exact H) | (have H2_ := (Option.bind_some _ _).symm.trans H; rw [hy167]; with_reducible exact H2_) | (have H2_ := (Option.bind_some _ _).symm.trans H; with_reducible exact H2_) | with_reducible exact H | (rw [hy167]; exact H) | exact H
            have Ny167 := Aside0.mk hy167
            clear hy167
            have H' := Aside0.mk H
            clear H
            go_wp2_with (first | ((with_reducible refine gate_dst (N := 75) rfl ?_); refine Kd.R_lit (Kd.int .u8) _ 5 ?hg (N := 75) ?hd (xs := ([Go.bits .or .u8 224 ((x5_5 / 4096) % 256), Go.bits .or .u8 128 ((Go.bits .and .i32 (x5_5 / 64) 63) % 256), Go.bits .or .u8 128 ((Go.bits .and .i32 x5_5 63) % 256)] : List Int)) (inner := [.int .u8 (Go.bits .or .u8 224 ((x5_5 / 4096) % 256)), .int .u8 (Go.bits .or .u8 128 ((Go.bits .and .i32 (x5_5 / 64) 63) % 256)), .int .u8 (Go.bits .or .u8 128 ((Go.bits .and .i32 x5_5 63) % 256))]) (ok := fun _ => True) (okp := fun _ => True) ?hr ?hp (fun _ hk => hk) trivial (Below.refl _ _) (Nat.le_refl _) (by simp) ?_; (case hd => rfl); (case hg => rfl); (case hr => first | (go_simp; done) | (go_simp; rfl)); (case hp => exact (Reps.one (show Kd.M (Kd.int .u8) _ _ _ (Go.bits .or .u8 224 ((x5_5 / 4096) % 256)) [.int .u8 (Go.bits .or .u8 224 ((x5_5 / 4096) % 256))] from rfl) (Reps.one (show Kd.M (Kd.int .u8) _ _ _ (Go.bits .or .u8 128 ((Go.bits .and .i32 (x5_5 / 64) 63) % 256)) [.int .u8 (Go.bits .or .u8 128 ((Go.bits .and .i32 (x5_5 / 64) 63) % 256))] from rfl) (Reps.one (show Kd.M (Kd.int .u8) _ _ _ (Go.bits .or .u8 128 ((Go.bits .and .i32 x5_5 63) % 256)) [.int .u8 (Go.bits .or .u8 128 ((Go.bits .and .i32 x5_5 63) % 256))] from rfl) (Reps.none _ _))))); intro v165 w19 ho20 hb hg_ hnew_; clear hg_ hnew_; (first | rw [← Ny164.out] at ho20 | (simp only [Int.reduceToNat] at ho20; rw [← Ny164.out] at ho20)); have n0_ := Aside0.mk (Kd.R_elder' (by (with_reducible repeat (first | apply Kd.R_alloc | apply Kd.R_drewN | apply Kd.R_drew)); exact HO_3.out) (Kd.R_base ho20) hb); have n1_ := Aside0.mk (Kd.R_lower (Kd.R_new' ho20 (Kd.R_lt (by (with_reducible repeat (first | apply Kd.R_alloc | apply Kd.R_drewN | apply Kd.R_drew)); exact HO_3.out))) (below_size (by repeat (first | (with_reducible first | exact HB.out | apply below_alloc | apply pw_below_drewN | apply below_drew1) | exact HB.out)))); have n2_ := Aside0.mk (below_step (by repeat (first | (with_reducible first | exact HB.out | apply below_alloc | apply pw_below_drewN | apply below_drew1) | exact HB.out)) hb); clear HO_3; clear HB; have HO_3 := n0_; have HO166 := n1_; have HB := n2_; clear n0_ n1_ n2_; clear hb ho20; obtain ⟨Ao22, co22, eo22⟩ := Kd.R_slice HO166.out; subst eo22) | ((with_reducible refine gate_builtin (b := .append) (xs := #[.tmp 61, .tmp 75]) rfl ?_); at_builtin; refine Kd.R_append_rows (Kd.int .u8) (w0 := w) w.heap.size rfl (.tmp 61) (.tmp 75) 27 5 (.int .u8 0) 1 rfl Tryd.underlying27 info5 rfl (by decide) (by omega) u3 x3_1 y164 _ _ _ (fun k_ => some k_ ≠ (.slice Ao22 y164.length co22 : Value).ownBlock) (fun _ => False) rfl rfl ?aO ?aR (fun _ _ h => h) (fun _ h => h.elim) ?aF ?aB ?aS ?aL ?_; (case aR => repeat (first | exact (Kd.R_reads' HO166.out).2.2 | (with_reducible refine Kd.C_alloc ?_ _) | (with_reducible refine Kd.C_drewN ?_ _) | (with_reducible refine Kd.C_drew ?_))); (case aB => exact (by repeat (first | (with_reducible first | exact HB.out | apply below_alloc | apply pw_below_drewN | apply below_drew1) | exact HB.out))); (case aF => exact (fun k_ hk => Kd.fresh' (Kd.R_lt (by (with_reducible repeat (first | apply Kd.R_alloc | apply Kd.R_drewN | apply Kd.R_drew)); exact HO166.out)) k_ hk)); (case aO => exact (by (with_reducible repeat (first | apply Kd.R_alloc | apply Kd.R_drewN | apply Kd.R_drew)); exact Kd.R_mono HO_3.out (fun _ hk => hk.2))); (case aS => exact (below_size (by repeat (first | (with_reducible first | exact HB.out | apply below_alloc | apply pw_below_drewN | apply below_drew1) | exact HB.out)))); (case aL => have := LMc18.out; omega); intro v168 w21 ho hb hg hat; rw [← Ny167.out] at ho; have n0_ := Aside0.mk (Kd.R_after (ok := (fun _ => True)) (by (with_reducible repeat (first | apply Kd.R_alloc | apply Kd.R_drewN | apply Kd.R_drew)); exact HO166.out) hg hat); have n1_ := Aside0.mk (hb); have n2_ := Aside0.mk (ho); clear HO166; clear HB; clear HO_3; have HO166 := n0_; have HB := n1_; have HO169 := n2_; clear n0_ n1_ n2_; clear ho hb hg hat))
            go_roundg kj5
            case measure => have := HK1.out; have := HJ5.out; omega
            case rel => exact ⟨(y167), (wrap64 (x8_1 + 1)), (by first | rfl | (simp; done) | (simp [*]; done)), H', ⟨by have := HK1.out; have := HJ5.out; omega⟩, ⟨by (with_reducible repeat (first | apply Kd.R_alloc | apply Kd.R_drewN | apply Kd.R_drew)); exact Kd.R_mono HO169.out (fun _ hk => trivial)⟩, ⟨by repeat (first | (with_reducible first | exact HB.out | apply below_alloc | apply pw_below_drewN | apply below_drew1) | exact HB.out)⟩⟩
           ·rw [if_neg c18] at H
            exact absurd H (by simp)
          ·rw [if_neg c17] at H
           have c17b0 : decide (x5_5 < 65536) = false := decide_eq_false c17
           clear c17
           obtain ⟨y170, hy170⟩ : ∃ y_ : List Int, y_ = (([Go.bits .or .u8 240 ((x5_5 / 262144) % 256), Go.bits .or .u8 128 ((Go.bits .and .i32 (x5_5 / 4096) 63) % 256), Go.bits .or .u8 128 ((Go.bits .and .i32 (x5_5 / 64) 63) % 256), Go.bits .or .u8 128 ((Go.bits .and .i32 x5_5 63) % 256)] : List Int)) := ⟨_, rfl⟩
           replace H : (if x3_1.length + y170.length < 140737488355328 then (utf_Encode.l0 kj5 (x3_1 ++ y170) l0 (l0.length : Int) (wrap64 (x8_1 + 1))) else (none)) = some r := by first | (rw [hy170]; with_reducible exact H) | (have H2_ := (Option.bind_some _ _).symm.trans H; rw [hy170]; with_reducible exact H2_) | (have H2_ := (Option.bind_some _ _).symm.trans H; with_reducible exact H2_) | with_reducible exact H | (rw [hy170]; exact H) | exact H
           have Ny170 := Aside0.mk hy170
           clear hy170
           by_cases c23 : x3_1.length + y170.length < 140737488355328
           ·rw [if_pos c23] at H
            have LMc23 := Aside0.mk c23
            clear c23
            obtain ⟨y173, hy173⟩ : ∃ y_ : List Int, y_ = (x3_1 ++ y170) := ⟨_, rfl⟩
            replace H : (utf_Encode.l0 kj5 y173 l0 (l0.length : Int) (wrap64 (x8_1 + 1))) = some r := by first | (rw [hy173]; with_reducible exact H) | (have H2_ := (Option.bind_some _ _).symm.trans H; rw [hy173]; with_reducible exact H2_) | (have H2_ := (Option.bind_some _ _).symm.trans H; with_reducible exact H2_) | with_reducible exact H | (rw [hy173]; exact H) | exact H
            have Ny173 := Aside0.mk hy173
            clear hy173
            have H' := Aside0.mk H
            clear H
            go_wp2_with (first | ((with_reducible refine gate_dst (N := 34) rfl ?_); refine Kd.R_lit (Kd.int .u8) _ 5 ?hg (N := 34) ?hd (xs := ([Go.bits .or .u8 240 ((x5_5 / 262144) % 256), Go.bits .or .u8 128 ((Go.bits .and .i32 (x5_5 / 4096) 63) % 256), Go.bits .or .u8 128 ((Go.bits .and .i32 (x5_5 / 64) 63) % 256), Go.bits .or .u8 128 ((Go.bits .and .i32 x5_5 63) % 256)] : List Int)) (inner := [.int .u8 (Go.bits .or .u8 240 ((x5_5 / 262144) % 256)), .int .u8 (Go.bits .or .u8 128 ((Go.bits .and .i32 (x5_5 / 4096) 63) % 256)), .int .u8 (Go.bits .or .u8 128 ((Go.bits .and .i32 (x5_5 / 64) 63) % 256)), .int .u8 (Go.bits .or .u8 128 ((Go.bits .and .i32 x5_5 63) % 256))]) (ok := fun _ => True) (okp := fun _ => True) ?hr ?hp (fun _ hk => hk) trivial (Below.refl _ _) (Nat.le_refl _) (by simp) ?_; (case hd => rfl); (case hg => rfl); (case hr => first | (go_simp; done) | (go_simp; rfl)); (case hp => exact (Reps.one (show Kd.M (Kd.int .u8) _ _ _ (Go.bits .or .u8 240 ((x5_5 / 262144) % 256)) [.int .u8 (Go.bits .or .u8 240 ((x5_5 / 262144) % 256))] from rfl) (Reps.one (show Kd.M (Kd.int .u8) _ _ _ (Go.bits .or .u8 128 ((Go.bits .and .i32 (x5_5 / 4096) 63) % 256)) [.int .u8 (Go.bits .or .u8 128 ((Go.bits .and .i32 (x5_5 / 4096) 63) % 256))] from rfl) (Reps.one (show Kd.M (Kd.int .u8) _ _ _ (Go.bits .or .u8 128 ((Go.bits .and .i32 (x5_5 / 64) 63) % 256)) [.int .u8 (Go.bits .or .u8 128 ((Go.bits .and .i32 (x5_5 / 64) 63) % 256))] from rfl) (Reps.one (show Kd.M (Kd.int .u8) _ _ _ (Go.bits .or .u8 128 ((Go.bits .and .i32 x5_5 63) % 256)) [.int .u8 (Go.bits .or .u8 128 ((Go.bits .and .i32 x5_5 63) % 256))] from rfl) (Reps.none _ _)))))); intro v171 w24 ho25 hb hg_ hnew_; clear hg_ hnew_; (first | rw [← Ny170.out] at ho25 | (simp only [Int.reduceToNat] at ho25; rw [← Ny170.out] at ho25)); have n0_ := Aside0.mk (Kd.R_elder' (by (with_reducible repeat (first | apply Kd.R_alloc | apply Kd.R_drewN | apply Kd.R_drew)); exact HO_3.out) (Kd.R_base ho25) hb); have n1_ := Aside0.mk (Kd.R_lower (Kd.R_new' ho25 (Kd.R_lt (by (with_reducible repeat (first | apply Kd.R_alloc | apply Kd.R_drewN | apply Kd.R_drew)); exact HO_3.out))) (below_size (by repeat (first | (with_reducible first | exact HB.out | apply below_alloc | apply pw_below_drewN | apply below_drew1) | exact HB.out)))); have n2_ := Aside0.mk (below_step (by repeat (first | (with_reducible first | exact HB.out | apply below_alloc | apply pw_below_drewN | apply below_drew1) | exact HB.out)) hb); clear HO_3; clear HB; have HO_3 := n0_; have HO172 := n1_; have HB := n2_; clear n0_ n1_ n2_; clear hb ho25; obtain ⟨Ao27, co27, eo27⟩ := Kd.R_slice HO172.out; subst eo27) | ((with_reducible refine gate_builtin (b := .append) (xs := #[.tmp 15, .tmp 34]) rfl ?_); at_builtin; refine Kd.R_append_rows (Kd.int .u8) (w0 := w) w.heap.size rfl (.tmp 15) (.tmp 34) 27 5 (.int .u8 0) 1 rfl Tryd.underlying27 info5 rfl (by decide) (by omega) u3 x3_1 y170 _ _ _ (fun k_ => some k_ ≠ (.slice Ao27 y170.length co27 : Value).ownBlock) (fun _ => False) rfl rfl ?aO ?aR (fun _ _ h => h) (fun _ h => h.elim) ?aF ?aB ?aS ?aL ?_; (case aR => repeat (first | exact (Kd.R_reads' HO172.out).2.2 | (with_reducible refine Kd.C_alloc ?_ _) | (with_reducible refine Kd.C_drewN ?_ _) | (with_reducible refine Kd.C_drew ?_))); (case aB => exact (by repeat (first | (with_reducible first | exact HB.out | apply below_alloc | apply pw_below_drewN | apply below_drew1) | exact HB.out))); (case aF => exact (fun k_ hk => Kd.fresh' (Kd.R_lt (by (with_reducible repeat (first | apply Kd.R_alloc | apply Kd.R_drewN | apply Kd.R_drew)); exact HO172.out)) k_ hk)); (case aO => exact (by (with_reducible repeat (first | apply Kd.R_alloc | apply Kd.R_drewN | apply Kd.R_drew)); exact Kd.R_mono HO_3.out (fun _ hk => hk.2))); (case aS => exact (below_size (by repeat (first | (with_reducible first | exact HB.out | apply below_alloc | apply pw_below_drewN | apply below_drew1) | exact HB.out)))); (case aL => have := LMc23.out; omega); intro v174 w26 ho hb hg hat; rw [← Ny173.out] at ho; have n0_ := Aside0.mk (Kd.R_after (ok := (fun _ => True)) (by (with_reducible repeat (first | apply Kd.R_alloc | apply Kd.R_drewN | apply Kd.R_drew)); exact HO172.out) hg hat); have n1_ := Aside0.mk (hb); have n2_ := Aside0.mk (ho); clear HO172; clear HB; clear HO_3; have HO172 := n0_; have HB := n1_; have HO175 := n2_; clear n0_ n1_ n2_; clear ho hb hg hat))
            go_roundg kj5
            case measure => have := HK1.out; have := HJ5.out; omega
            case rel => exact ⟨(y173), (wrap64 (x8_1 + 1)), (by first | rfl | (simp; done) | (simp [*]; done)), H', ⟨by have := HK1.out; have := HJ5.out; omega⟩, ⟨by (with_reducible repeat (first | apply Kd.R_alloc | apply Kd.R_drewN | apply Kd.R_drew)); exact Kd.R_mono HO175.out (fun _ hk => trivial)⟩, ⟨by repeat (first | (with_reducible first | exact HB.out | apply below_alloc | apply pw_below_drewN | apply below_drew1) | exact HB.out)⟩⟩
           ·rw [if_neg c23] at H
            exact absurd H (by simp)
     ·rw [if_neg c4] at H
      exact absurd H (by simp)
    ·rw [if_neg c3] at H
     exact absurd H (by simp)
   ·rw [if_neg c2] at H
    have c2b0 : decide (x8_1 < (l0.length : Int)) = false := decide_eq_false c2
    clear c2
    obtain rfl := Option.some.inj H
    go_wp2
    go_ret
    exact ⟨_, by first | rfl | (simp [errW_none, errW_some] <;> rfl) | (simp [*, errW_none, errW_some] <;> rfl), by (with_reducible repeat (first | apply Kd.R_alloc | apply Kd.R_drewN | apply Kd.R_drew)); exact HO_3.out, by repeat (first | (with_reducible first | exact HB.out | apply below_alloc | apply pw_below_drewN | apply below_drew1) | exact HB.out)⟩

end Go.Proofs.YtiggjbclbdikmaaDoor.X

-- Written by a program of this session (xprint.py), over the kit's print.
namespace Go.Proofs.YtiggjbclbdikmaaDoor.X
open Go.RowKit Go.Proofs.YtiggjbclbdikmaaDoorW.PrintWords Go.Proofs.YtiggjbclbdikmaaDoorW.PrintLast Go.Proofs.YtiggjbclbdikmaaDoorW.PrintMore
attribute [local go_sem] max2_int min2_int max_two min_two max_three min_three max_four min_four   -- for this text's walks alone
set_option linter.unusedVariables false
set_option linter.unusedSimpArgs false

/-! ### norm_Text: function 25 -/
def norm_Text.f (k : Nat) (l0 : List Int) : Option (ByteArray) := (norm_Runes.f (strOfNums l0)).bind fun t284 => ((norm_Normal.f k t284).bind fun t287 => ((utf_Encode.f k t287).bind fun t290 => (some (strOfNums t290))))
theorem norm_Text.mono : ∀ a0 k, LeO (norm_Text.f k a0) (norm_Text.f (k + 1) a0) := by
 intro a0 k
 unfold norm_Text.f
 repeat' first
   | (with_reducible exact norm_Normal.mono _ _)
   | (with_reducible exact utf_Encode.mono _ _)
   | (with_reducible exact LeO.refl _)
   | (with_reducible exact LeO.none _)
   | (with_reducible refine LeO.ite ?_ ?_)
   | (with_reducible refine LeO.bind ?_ (fun _ => ?_))
   | exact norm_Normal.mono _ _
   | exact utf_Encode.mono _ _
   | exact LeO.none _
   | refine LeO.ite ?_ ?_
   | refine LeO.bind ?_ (fun _ => ?_)
set_option maxHeartbeats 8000000 in
set_option maxRecDepth 100000 in
theorem norm_Text.calls (k : Nat) (A0 : Option Addr) (c0 : Nat) (l0 : List Int) (r : ByteArray) (w : World) (hr0 : Kd.C (Kd.int .u8) w A0 l0.length l0) (hc0 : l0.length ≤ c0) (h : norm_Text.f k l0 = some r) (hG0 : Va.G w) :
  Calls Tryd.prog 25 #[.slice A0 l0.length c0] w fun e w' => e = .returned (.string r) ∧ Below w.heap.size w w' := by
 have HG := Aside0.mk hG0
 clear hG0
 have HR0 := Aside0.mk hr0
 have HC0 := Aside0.mk hc0
 clear hr0 hc0
 have HB := Aside0.mk (Below.refl w.heap.size w)
 have H : ((norm_Runes.f (strOfNums l0)).bind fun t284 => ((norm_Normal.f k t284).bind fun t287 => ((utf_Encode.f k t287).bind fun t290 => (some (strOfNums t290))))) = some r := h
 clear h
 replace H := Option.bind_eq_some_iff.mp H
 obtain ⟨t284, A20, H⟩ := H
 replace H : ((norm_Normal.f k t284).bind fun t287 => ((utf_Encode.f k t287).bind fun t290 => (some (strOfNums t290)))) = some r := H
 have A2 := Aside0.mk A20
 clear A20
 replace H := Option.bind_eq_some_iff.mp H
 obtain ⟨t287, A30, H⟩ := H
 replace H : ((utf_Encode.f k t287).bind fun t290 => (some (strOfNums t290))) = some r := H
 have A3 := Aside0.mk A30
 clear A30
 replace H := Option.bind_eq_some_iff.mp H
 obtain ⟨t290, A40, H⟩ := H
 replace H : (some (strOfNums t290)) = some r := H
 have A4 := Aside0.mk A40
 clear A40
 obtain rfl := Option.some.inj H
 have hcv5 := Kd.C_string (P := Tryd.prog) (A := A0) (c := c0) Tryd.underlying27 Tryd.underlying5 Tryd.underlying9 HR0.out
 go_enter Tryd.func25, Tryd.ntmps25
 go_wp2_with (first | ((with_reducible refine gate_callee (f := 27) rfl ?_); refine goesL_ (some 5) rfl rfl Tryd.func27 (by kernel_rfl) rfl #[.string (strOfNums l0)] rfl (by (try simp only [List.map_toArray, List.map_cons, List.map_nil]); first | done | rfl | (simp only [List.length_drop, List.length_take]; rfl)) ?_; (with_reducible refine (norm_Runes.calls (strOfNums l0) t284 _ A2.out).mono ?_); rintro e w6 ⟨v285, rfl, ho0, hb⟩; refine ⟨_, rfl, ?_⟩; have n0_ := Aside0.mk (Kd.R_lower ho0 (below_size (by repeat (first | (with_reducible first | exact HB.out | apply below_alloc | apply pw_below_drewN | apply below_drew1) | exact HB.out)))); have n1_ := Aside0.mk (below_step (by repeat (first | (with_reducible first | exact HB.out | apply below_alloc | apply pw_below_drewN | apply below_drew1) | exact HB.out)) hb); clear HB; have HO286 := n0_; have HB := n1_; clear n0_ n1_; (try clear hb); (try clear hb2); (try clear hk); (try clear hi); (try clear ho0); obtain ⟨Ao7, co7, eo7⟩ := Kd.R_slice HO286.out; subst eo7) | ((with_reducible refine gate_callee (f := 22) rfl ?_); refine goesL_ (some 6) rfl rfl Tryd.func22 (by kernel_rfl) rfl #[.slice Ao7 t284.length co7] rfl (by (try simp only [List.map_toArray, List.map_cons, List.map_nil]); first | done | rfl | (simp only [List.length_drop, List.length_take]; rfl)) ?_; (with_reducible refine (norm_Normal.calls k _ _ t284 t287 _ ?side1 ?side2 A3.out (by first | exact HG.out | exact Va.G.below HG.out (by repeat (first | (with_reducible first | exact HB.out | apply below_alloc | apply pw_below_drewN | apply below_drew1) | exact HB.out)))).mono ?_); (case side1 => repeat (first | exact (Kd.R_reads' HO286.out).2.2 | (with_reducible refine Kd.C_alloc ?_ _) | (with_reducible refine Kd.C_drewN ?_ _) | (with_reducible refine Kd.C_drew ?_))); (case side2 => exact (Kd.R_reads' HO286.out).2.1); rintro e w8 ⟨v288, rfl, ho0, hb⟩; refine ⟨_, rfl, ?_⟩; have n0_ := Aside0.mk (Kd.R_elder' (by (with_reducible repeat (first | apply Kd.R_alloc | apply Kd.R_drewN | apply Kd.R_drew)); exact HO286.out) (Kd.R_base ho0) hb); have n1_ := Aside0.mk (Kd.R_lower (Kd.R_new' ho0 (Kd.R_lt (by (with_reducible repeat (first | apply Kd.R_alloc | apply Kd.R_drewN | apply Kd.R_drew)); exact HO286.out))) (below_size (by repeat (first | (with_reducible first | exact HB.out | apply below_alloc | apply pw_below_drewN | apply below_drew1) | exact HB.out)))); have n2_ := Aside0.mk (below_step (by repeat (first | (with_reducible first | exact HB.out | apply below_alloc | apply pw_below_drewN | apply below_drew1) | exact HB.out)) hb); clear HO286; clear HB; have HO286 := n0_; have HO289 := n1_; have HB := n2_; clear n0_ n1_ n2_; (try clear hb); (try clear hb2); (try clear hk); (try clear hi); (try clear ho0); obtain ⟨Ao9, co9, eo9⟩ := Kd.R_slice HO289.out; subst eo9) | ((with_reducible refine gate_callee (f := 56) rfl ?_); refine goesL_ (some 7) rfl rfl Tryd.func56 (by kernel_rfl) rfl #[.slice Ao9 t287.length co9] rfl (by (try simp only [List.map_toArray, List.map_cons, List.map_nil]); first | done | rfl | (simp only [List.length_drop, List.length_take]; rfl)) ?_; (with_reducible refine (utf_Encode.calls k _ _ t287 t290 _ ?side1 ?side2 A4.out).mono ?_); (case side1 => repeat (first | exact (Kd.R_reads' HO289.out).2.2 | (with_reducible refine Kd.C_alloc ?_ _) | (with_reducible refine Kd.C_drewN ?_ _) | (with_reducible refine Kd.C_drew ?_))); (case side2 => exact (Kd.R_reads' HO289.out).2.1); rintro e w10 ⟨v291, rfl, ho0, hb⟩; refine ⟨_, rfl, ?_⟩; have n0_ := Aside0.mk (Kd.R_below (by (with_reducible repeat (first | apply Kd.R_alloc | apply Kd.R_drewN | apply Kd.R_drew)); exact HO286.out) hb); have n1_ := Aside0.mk (Kd.R_below (by (with_reducible repeat (first | apply Kd.R_alloc | apply Kd.R_drewN | apply Kd.R_drew)); exact HO289.out) hb); have n2_ := Aside0.mk (Kd.R_lower ho0 (below_size (by repeat (first | (with_reducible first | exact HB.out | apply below_alloc | apply pw_below_drewN | apply below_drew1) | exact HB.out)))); have n3_ := Aside0.mk (below_step (by repeat (first | (with_reducible first | exact HB.out | apply below_alloc | apply pw_below_drewN | apply below_drew1) | exact HB.out)) hb); clear HO286; clear HO289; clear HB; have HO286 := n0_; have HO289 := n1_; have HO292 := n2_; have HB := n3_; clear n0_ n1_ n2_ n3_; (try clear hb); (try clear hb2); (try clear hk); (try clear hi); (try clear ho0); have hcv11 := own_string (P := Tryd.prog) Tryd.underlying27 Tryd.underlying5 Tryd.underlying9 (Kd.own_of_R HO292.out)))
 go_ret
 exact ⟨by first | rfl | (simp [errW_none, errW_some] <;> rfl) | (simp [*, errW_none, errW_some] <;> rfl), by repeat (first | (with_reducible first | exact HB.out | apply below_alloc | apply pw_below_drewN | apply below_drew1) | exact HB.out)⟩

end Go.Proofs.YtiggjbclbdikmaaDoor.X

/-
  tremalaw03.fixed.
-/
namespace Go.Proofs.YtiggjbclbdikmaaDoor.Nf
set_option linter.unusedVariables false
set_option linter.unusedSimpArgs false
open Go.Proofs.YtiggjbclbdikmaaDoor.Vd (decU)
open Go.RowKit Go.Proofs.YtiggjbclbdikmaaDoorW.PrintWords Go.Proofs.YtiggjbclbdikmaaDoorW.PrintLast Go.Proofs.YtiggjbclbdikmaaDoorW.PrintMore Go.Proofs.YtiggjbclbdikmaaDoor.Hp Go.Proofs.YtiggjbclbdikmaaDoor.Va Go.Proofs.YtiggjbclbdikmaaDoor.Na Go.Proofs.YtiggjbclbdikmaaDoor.Nb Go.Proofs.YtiggjbclbdikmaaDoor.Ng Go.Proofs.YtiggjbclbdikmaaDoor.X Go.Proofs.YtiggjbclbdikmaaDoor.Fr

theorem up {W w' : World} {o : Obj} (h : Below (W.alloc o).heap.size (W.alloc o) w') : Below W.heap.size W w' := below_step (below_alloc (Below.refl _ _) o) h
theorem litC (W : World) (cs : Array Value) (xs : List Int) (hc : cs.toList = nums .i32 xs) (hm : xs.length ≤ 9223372036854775807) : K3.C (W.alloc (.cells cs T3)) (some ⟨W.heap.size, 0, none⟩) xs.length xs := rdC (lit_reads (k := .i32) (heap_alloc_new W _) hc hm)
theorem Is1 (W : World) (hG : G W) (x : Int) (r : Bool) (h : norm_Is.f 40 [x] = some r) : Calls Tryd.prog 23 #[.slice (some ⟨W.heap.size, 0, none⟩) 1 1] (W.alloc (.cells #[.int .i32 x] T3)) fun e w' => e = .returned (.bool r) ∧ Below W.heap.size W w' :=
  (norm_Is.calls 40 _ 1 [x] r _ (litC W _ [x] rfl (by simp)) (Nat.le_refl _) h (hG.below (below_alloc (Below.refl _ _) _))).mono fun e w' ⟨h1, h2⟩ => ⟨h1, up h2⟩
theorem Norm3 (W : World) (hG : G W) : Calls Tryd.prog 22 #[.slice (some ⟨W.heap.size, 0, none⟩) 3 3] (W.alloc (.cells #[.int .i32 97, .int .i32 769, .int .i32 803] T3)) fun e w' => ∃ A c, e = .returned (.slice A 3 c) ∧ 3 ≤ c ∧ K3.C w' A 3 [97, 803, 769] ∧ Below W.heap.size W w' :=
  (norm_Normal.calls 40 _ 3 [97, 769, 803] [97, 803, 769] _ (litC W _ [97, 769, 803] rfl (by simp)) (by decide) (by decide +kernel) (hG.below (below_alloc (Below.refl _ _) _))).mono fun e w' ⟨v, h1, h2, h3⟩ => by
    obtain ⟨A, c, rfl, hc, hC⟩ := Kd.R_reads h2
    exact ⟨A, c, h1, hc, hC, up h3⟩
theorem SameR (W : World) (A : Option Addr) (c : Nat) (xs : List Int) (cs : Array Value) (hc : xs.length ≤ c) (hC : K3.C W A xs.length xs) (hcs : cs.toList = nums .i32 xs) (hm : xs.length ≤ 9223372036854775807) (n : Nat) (hn : n = xs.length) (h : tremaref01_SameRunes.f 40 xs xs = some true) :
    Calls Tryd.prog 21 #[.slice A n c, .slice (some ⟨W.heap.size, 0, none⟩) n n] (W.alloc (.cells cs T3)) fun e w' => e = .returned (.bool true) ∧ Below W.heap.size W w' := by
  subst hn
  exact (tremaref01_SameRunes.calls 40 A c xs _ _ xs true _ (Kd.C_below hC (below_alloc (Below.refl _ _) _)) hc (litC W cs xs hcs hm) (Nat.le_refl _) h).mono fun e w' ⟨h1, h2⟩ => ⟨h1, up h2.below⟩
theorem Same2 (W : World) (hG : G W) : Calls Tryd.prog 24 #[.slice (some ⟨W.heap.size, 0, none⟩) 1 1, .slice (some ⟨W.heap.size + 1, 0, none⟩) 2 2] ((W.alloc (.cells #[.int .i32 8491] T3)).alloc (.cells #[.int .i32 65, .int .i32 778] T3)) fun e w' => e = .returned (.bool true) ∧ Below W.heap.size W w' := by
  have h2 := litC (W.alloc (.cells #[.int .i32 8491] T3)) #[.int .i32 65, .int .i32 778] [65, 778] rfl (by simp)
  rw [World.size_alloc] at h2
  exact (norm_Same.calls 40 _ 1 [8491] _ 2 [65, 778] true _ (Kd.C_below (litC W _ [8491] rfl (by simp)) (below_alloc (Below.refl _ _) _)) (by decide) h2 (by decide) (by decide +kernel) (hG.below (below_step (below_alloc (Below.refl _ _) _) (below_alloc (Below.refl _ _) _)))).mono fun e w' ⟨h1, h2⟩ => ⟨h1, up (up h2)⟩
theorem Text1 (W : World) (hG : G W) : Calls Tryd.prog 25 #[.slice (some ⟨W.heap.size, 0, none⟩) 2 2] (W.alloc (.cells #[.int .u8 195, .int .u8 169] 5 (2, 3))) fun e w' => e = .returned (.string ⟨#[101, 204, 129]⟩) ∧ Below W.heap.size W w' :=
  (norm_Text.calls 40 _ 2 [195, 169] ⟨#[101, 204, 129]⟩ _ (rdC (lit_reads (k := .u8) (xs := [195, 169]) (heap_alloc_new W _) rfl (by simp))) (by decide) (by decide +kernel) (hG.below (below_alloc (Below.refl _ _) _))).mono fun e w' ⟨h1, h2⟩ => ⟨h1, up h2⟩
theorem Runes1 (W : World) : Calls Tryd.prog 27 #[.string ⟨#[101, 204, 129]⟩] W fun e w' => ∃ A c, e = .returned (.slice A 2 c) ∧ Below W.heap.size W w' :=
  (norm_Runes.calls ⟨#[101, 204, 129]⟩ [101, 769] W (by decide +kernel)).mono fun e w' ⟨v, h1, h2, h3⟩ => by
    obtain ⟨A, c, rfl⟩ := Kd.R_slice h2
    exact ⟨A, c, h1, h3⟩
theorem Wr1 (W : World) (hG : G W) (g base : Nat) (hb3 : 3 ≤ base) (h : IsForm g base [] false (fun b => b = g) W) : Calls Tryd.prog 31 #[.pointer (some ⟨g, 0, none⟩), .slice (some ⟨W.heap.size, 0, none⟩) 2 2] (W.alloc (.cells #[.int .i32 101, .int .i32 769] T3)) fun e w' => ∃ A, e = .returned (.slice A 1 1) ∧ IsForm g base [769] false (fun b => base ≤ b) w' ∧ Chg (fun b => b = g) W w' := by
  have hlt := h.lt
  refine (Write _ (hG.below (below_alloc (Below.refl _ _) _)) g base [] _ (h.below (below_alloc (Below.refl _ _) _)) hb3 _ 2 2 [101, 769] (litC W _ [101, 769] rfl (by simp)) (by decide) (by decide) (by decide +kernel)).mono ?_
  rintro e w' ⟨A, h1, h2, h3, h4, h5⟩
  rw [show sure ([] ++ [101, 769].flatMap decU) = 1 by decide +kernel] at h1 h4
  rw [show List.drop 1 ([] ++ List.flatMap decU [101, 769]) = ([769] : List Int) by decide +kernel] at h4
  refine ⟨A, h1, h4.mono fun k hk => ?_, (Chg.of_below (below_alloc (Below.refl W.heap.size W) _) (fun k h1 h2 => by omega)).trans h5 (fun _ _ h => h)⟩
  rcases hk with rfl | ⟨hk, _⟩
  · exact hlt.2.1
  · rw [World.size_alloc] at hk; omega
theorem Wr2 (W : World) (hG : G W) (g base : Nat) (hb3 : 3 ≤ base) (h : IsForm g base [769] false (fun b => base ≤ b) W) : Calls Tryd.prog 31 #[.pointer (some ⟨g, 0, none⟩), .slice (some ⟨W.heap.size, 0, none⟩) 1 1] (W.alloc (.cells #[.int .i32 98] T3)) fun e w' => ∃ A, e = .returned (.slice A 2 2) ∧ K3.C w' A 2 [769, 98] ∧ IsForm g base [] false (fun b => base ≤ b) w' ∧ Chg (fun b => b = g) W w' := by
  have hlt := h.lt
  refine (Write _ (hG.below (below_alloc (Below.refl _ _) _)) g base [769] _ (h.below (below_alloc (Below.refl _ _) _)) hb3 _ 1 1 [98] (litC W _ [98] rfl (by simp)) (by decide) (by decide) (by decide +kernel)).mono ?_
  rintro e w' ⟨A, h1, h2, h3, h4, h5⟩
  rw [show sure ([769] ++ [98].flatMap decU) = 2 by decide +kernel] at h1 h2 h4
  rw [show List.drop 2 ([769] ++ List.flatMap decU [98]) = ([] : List Int) by decide +kernel] at h4
  rw [show ordL (List.take 2 ([769] ++ List.flatMap decU [98])) = [769, 98] by decide +kernel] at h2
  refine ⟨A, h1, h2.C (by simp), h4.mono fun k hk => ?_, (Chg.of_below (below_alloc (Below.refl W.heap.size W) _) (fun k h1 h2 => by omega)).trans h5 (fun _ _ h => h)⟩
  rcases hk with rfl | ⟨hk, _⟩
  · exact hlt.2.1
  · rw [World.size_alloc] at hk; omega
set_option maxRecDepth 100000 in
set_option maxHeartbeats 8000000 in
theorem fixedP (w : World) (hG : G w) : Calls Tryd.prog 19 #[] w fun e w' => e = .returned (.bool true) ∧ Below w.heap.size w w' := by
  have hb3 := G_size hG
  have HG := Aside0.mk hG
  have H3 := Aside0.mk hb3
  clear hG hb3
  go_enter Tryd.func19, Tryd.ntmps19
  go_upto_region 4 with (first | (go_at_call 30; go_must (refine (NewF w).mono ?_; rintro e w1 ⟨g, rfl, p1, p2, p3⟩; have Hg := Aside0.mk p1; have HFm := Aside0.mk p2; have HB := Aside0.mk p3; clear p1 p2 p3)))
  go_upto_region 5 with (first | (go_at_call 31; go_must (refine (Wr1 w1 (HG.out.below HB.out) g w.heap.size H3.out HFm.out).mono ?_; rintro e w2 ⟨A2, rfl, p1, p2⟩; have n0_ := Aside0.mk (p2.below_of HB.out (fun k hk => by rw [hk]; exact Hg.out)); clear HB HFm; have HB := n0_; have HFm := Aside0.mk p1; clear p1 p2 n0_)))
  go_upto_region 6 with (first | (go_at_call 33; go_must (refine (PendF _ g _ _ _ _ HFm.out).mono ?_; rintro e w3 ⟨rfl, rfl⟩)))
  go_upto_region 7 with (first | (go_at_call 31; go_must (refine (Wr2 _ (HG.out.below HB.out) g w.heap.size H3.out HFm.out).mono ?_; rintro e w4 ⟨A4, rfl, p0, p1, p2⟩; have n0_ := Aside0.mk (p2.below_of HB.out (fun k hk => by rw [hk]; exact Hg.out)); clear HB HFm; have HB := n0_; have HFm := Aside0.mk p1; have HBC := Aside0.mk p0; clear p0 p1 p2 n0_)))
  have kc : ∀ W : World, (convert 27 27 (.slice (some ⟨W.heap.size, 0, none⟩) 2 2)).run Tryd.prog (W.alloc (.cells #[.int .u8 195, .int .u8 169] 5)) = .ok (.slice (some ⟨W.heap.size, 0, none⟩) 2 2) (W.alloc (.cells #[.int .u8 195, .int .u8 169] 5 (2, 3))) := fun W => Lib.run_convert_bytes_const W 27 5 _ 2 2 Tryd.underlying27 Tryd.underlying5
  have T1 : Aside0 True := ⟨trivial⟩
  have T2 : Aside0 True := ⟨trivial⟩
  have s1 : (ByteArray.mk #[101, 204, 129] == ByteArray.mk #[101, 204, 129]) = true := by decide
  go_wp2_with (first | (go_at_call 22; go_must (refine (Norm3 _ (HG.out.below HB.out)).mono ?_; rintro e w5 ⟨A5, c5, rfl, q0, q1, p⟩; have HC5 := Aside0.mk q1; have Hc5 := Aside0.mk q0; clear q0 q1; have n0_ := Aside0.mk (below_step HB.out p); have n1_ := Aside0.mk (HFm.out.below p); have n2_ := Aside0.mk (Kd.C_below HBC.out p); clear HB HFm HBC; have HB := n0_; have HFm := n1_; have HBC := n2_; clear n0_ n1_ n2_ p)) | (go_at_call 21; have t := T1; clear T1; go_must (refine (SameR _ A5 c5 [97, 803, 769] _ Hc5.out HC5.out rfl (by simp) 3 rfl (by decide +kernel)).mono ?_; clear t; rintro e w6 ⟨rfl, p⟩; have n0_ := Aside0.mk (below_step HB.out p); have n1_ := Aside0.mk (HFm.out.below p); have n2_ := Aside0.mk (Kd.C_below HBC.out p); clear HB HFm HBC; have HB := n0_; have HFm := n1_; have HBC := n2_; clear n0_ n1_ n2_ p)) | (go_at_call 24; go_must (refine (Same2 _ (HG.out.below HB.out)).mono ?_; rintro e w7 ⟨rfl, p⟩; have n0_ := Aside0.mk (below_step HB.out p); have n1_ := Aside0.mk (HFm.out.below p); have n2_ := Aside0.mk (Kd.C_below HBC.out p); clear HB HFm HBC; have HB := n0_; have HFm := n1_; have HBC := n2_; clear n0_ n1_ n2_ p)) | (go_at_call 23; have t := T2; clear T2; go_must (refine (Is1 _ (HG.out.below HB.out) 65 true (by decide +kernel)).mono ?_; clear t; rintro e w8 ⟨rfl, p⟩; have n0_ := Aside0.mk (below_step HB.out p); have n1_ := Aside0.mk (HFm.out.below p); have n2_ := Aside0.mk (Kd.C_below HBC.out p); clear HB HFm HBC; have HB := n0_; have HFm := n1_; have HBC := n2_; clear n0_ n1_ n2_ p)) | (go_at_call 23; go_must (refine (Is1 _ (HG.out.below HB.out) 233 false (by decide +kernel)).mono ?_; rintro e w9 ⟨rfl, p⟩; have n0_ := Aside0.mk (below_step HB.out p); have n1_ := Aside0.mk (HFm.out.below p); have n2_ := Aside0.mk (Kd.C_below HBC.out p); clear HB HFm HBC; have HB := n0_; have HFm := n1_; have HBC := n2_; clear n0_ n1_ n2_ p)) | (go_at_call 25; go_must (refine (Text1 _ (HG.out.below HB.out)).mono ?_; rintro e wa ⟨rfl, p⟩; have n0_ := Aside0.mk (below_step HB.out p); have n1_ := Aside0.mk (HFm.out.below p); have n2_ := Aside0.mk (Kd.C_below HBC.out p); clear HB HFm HBC; have HB := n0_; have HFm := n1_; have HBC := n2_; clear n0_ n1_ n2_ p)) | (go_at_call 27; go_must (refine (Runes1 _).mono ?_; rintro e wb ⟨Ab, cb, rfl, p⟩; have n0_ := Aside0.mk (below_step HB.out p); have n1_ := Aside0.mk (HFm.out.below p); have n2_ := Aside0.mk (Kd.C_below HBC.out p); clear HB HFm HBC; have HB := n0_; have HFm := n1_; have HBC := n2_; clear n0_ n1_ n2_ p)) | (go_at_call 21; go_must (refine (SameR _ A4 2 [769, 98] _ (by decide) HBC.out rfl (by simp) 2 rfl (by decide +kernel)).mono ?_; rintro e wc ⟨rfl, p⟩; have n0_ := Aside0.mk (below_step HB.out p); have n1_ := Aside0.mk (HFm.out.below p); have n2_ := Aside0.mk (Kd.C_below HBC.out p); clear HB HFm HBC; have HB := n0_; have HFm := n1_; have HBC := n2_; clear n0_ n1_ n2_ p)) | (go_at_call 34; go_must (refine (Close _ (HG.out.below HB.out) g _ [] _ HFm.out H3.out (by simp)).mono ?_; rintro e wd ⟨Ad, cd, rfl, q0, q1, q2, q3, p⟩; have n0_ := Aside0.mk (p.below_of HB.out (fun k hk => hk)); clear HB HFm q0 q1 q2 q3 p; have HB := n0_; clear n0_)))
  go_ret
  exact ⟨rfl, HB.out⟩
end Go.Proofs.YtiggjbclbdikmaaDoor.Nf
namespace Go.Proofs.YtiggjbclbdikmaaDoor.X
open Go.RowKit Go.Proofs.YtiggjbclbdikmaaDoorW.PrintWords
def tremalaw03_fixed.f : Option Bool := some true
theorem tremalaw03_fixed.calls (r : Bool) (w : World) (h : tremalaw03_fixed.f = some r) (hG0 : Va.G w) : Calls Tryd.prog 19 #[] w fun e w' => e = .returned (.bool r) ∧ Below w.heap.size w w' := by
  cases Option.some.inj h
  exact Nf.fixedP w hG0
end Go.Proofs.YtiggjbclbdikmaaDoor.X

/-
  What the rows' listed variables give: G; a world that meets them.
-/
namespace Go.Proofs.YtiggjbclbdikmaaDoor.Lv
set_option linter.unusedVariables false
set_option linter.unusedSimpArgs false
open Go.ChangeShapes Go.WideShapes Go.ChangeAt Go.RowKit Go.Proofs.YtiggjbclbdikmaaDoorW.PrintWords Go.Proofs.YtiggjbclbdikmaaDoor.Va

theorem ints_of_array {H : Type} {enc : TypeId × Value → H} {P : Program} {w : World} {base : Nat} {sp : Nat → Bool} {held : Bool} {fuel : Nat} {t e : TypeId} {k : IntKind} {n : Nat} {cs : List Value} {l : List Int} {p : List MemPlace}
    (ht : P.underlying t = some (.array n e)) (he : P.underlying e = some (.int k)) (hC : P.cellsOf e = 1) (hT : P.cellsOf t = n) (h : DataW.trod enc P w base sp held fuel t cs = some (.agg (l.map fun x => .lit (.int k x)), p)) : cs = nums k l := by
  obtain ⟨xs, m, -, hx, hl, hxl, hi⟩ := DataW.trod_array ht h
  obtain ⟨hx1, -⟩ := Prod.mk.inj hx
  injection hx1 with hx1
  have hln : l.length = n := by have := congrArg List.length hx1; simpa [hxl] using this
  rw [hT] at hl
  unfold nums
  refine List.ext_getElem (by simp [hl, hln]) fun i h1 h2 => ?_
  have hin : i < n := by omega
  have hxi := hi i hin
  rw [hC, Nat.mul_one, List.getElem?_eq_getElem (by omega : i < xs.length)] at hxi
  obtain ⟨z, e1, e2, -⟩ := DataW.trod_int he hxi
  have e3 : (xs[i]'(by omega)).1 = DataW.lit (.int k (l[i]'(by omega))) := by
    have := congrArg (fun q => q[i]?) hx1
    simp [List.getElem?_eq_getElem (show i < l.length by omega), List.getElem?_eq_getElem (show i < xs.length by omega)] at this
    exact this.symm
  rw [e2] at e3
  injection e3 with e3
  injection e3 with _ e3
  have e4 : cs[i]'h1 = .int k z := by
    rw [List.drop_eq_getElem_cons h1, List.take_succ_cons, List.take_zero] at e1
    exact (List.cons.inj e1).1
  rw [e4, List.getElem_map, e3]
theorem triples_of_array {H : Type} {enc : TypeId × Value → H} {P : Program} {w : World} {base : Nat} {sp : Nat → Bool} {held : Bool} {fuel : Nat} {t e e3 : TypeId} {n : Nat} {cs : List Value} {l : List (Int × Int × Int)} {p : List MemPlace}
    (ht : P.underlying t = some (.array n e)) (he : P.underlying e = some (.array 3 e3)) (he3 : P.underlying e3 = some (.int .i32)) (hC3 : P.cellsOf e3 = 1) (hC : P.cellsOf e = 3) (hT : P.cellsOf t = n * 3) (h : DataW.trod enc P w base sp held fuel t cs = some (.agg (l.map fun x => .agg ([x.1, x.2.1, x.2.2].map fun y => .lit (.int .i32 y))), p)) : cs = cells3 l := by
  obtain ⟨xs, m, -, hx, hl, hxl, hi⟩ := DataW.trod_array ht h
  obtain ⟨hx1, -⟩ := Prod.mk.inj hx
  injection hx1 with hx1
  have hln : l.length = n := by have := congrArg List.length hx1; simpa [hxl] using this
  rw [hT] at hl
  have key : ∀ i (hin : i < l.length), (cs.drop (i * 3)).take 3 = nums .i32 [l[i].1, l[i].2.1, l[i].2.2] := by
    intro i hin
    have hxi := hi i (by omega)
    rw [hC, List.getElem?_eq_getElem (by omega : i < xs.length)] at hxi
    have e3' : (xs[i]'(by omega)).1 = DataW.agg ([l[i].1, l[i].2.1, l[i].2.2].map fun y => .lit (.int .i32 y)) := by
      have := congrArg (fun q => q[i]?) hx1
      simp [List.getElem?_eq_getElem (show i < l.length by omega), List.getElem?_eq_getElem (show i < xs.length by omega)] at this
      exact this.symm
    rw [show xs[i]'(by omega) = ((xs[i]'(by omega)).1, (xs[i]'(by omega)).2) from rfl, e3'] at hxi
    exact ints_of_array he he3 hC3 hC hxi
  clear hi hx1 hx hxl ht h
  have go : ∀ (l : List (Int × Int × Int)) (cs : List Value), cs.length = l.length * 3 → (∀ i (hin : i < l.length), (cs.drop (i * 3)).take 3 = nums .i32 [l[i].1, l[i].2.1, l[i].2.2]) → cs = cells3 l := by
    intro l
    induction l with
    | nil => intro cs h1 _; exact List.eq_nil_of_length_eq_zero (by simpa using h1)
    | cons x r ih =>
      intro cs h1 h2
      have h0 := h2 0 (by simp)
      have hr := ih (cs.drop 3) (by rw [List.length_drop, h1]; simp; omega) (fun i hin => by
        have := h2 (i + 1) (by simp; omega)
        rw [List.drop_drop, show 3 + i * 3 = (i + 1) * 3 by omega]
        exact this)
      rw [Nat.zero_mul, List.drop_zero] at h0
      rw [← List.take_append_drop 3 cs, h0, hr]
      rfl
  exact go l cs (by omega) key
abbrev laid : List (String × DataW Unit) := [("trema/ucd.classes", Rows.laid_trema_ucd_classes), ("trema/ucd.pairs", Rows.laid_trema_ucd_pairs), ("trema/ucd.marks", Rows.laid_trema_ucd_marks)]
theorem d0 : (Rows.laid_trema_ucd_classes : DataW Unit) = .agg (clsT.map fun x => .agg ([x.1, x.2.1, x.2.2].map fun y => .lit (.int .i32 y))) := by kernel_rfl
theorem d1 : (Rows.laid_trema_ucd_pairs : DataW Unit) = .agg (prsT.map fun x => .agg ([x.1, x.2.1, x.2.2].map fun y => .lit (.int .i32 y))) := by kernel_rfl
theorem d2 : (Rows.laid_trema_ucd_marks : DataW Unit) = .agg (mksT.map fun y => .lit (.int .i32 y)) := by kernel_rfl
theorem door_met (os : Os) (args : Array Value) : laidMetH Tryd.prog laid ((World.doorLaid Tryd.prog 400 os).forCall (fun _ _ => 0) ⟨#[], args, []⟩).memory :=
  laidMetH_of_parts3 (fuel := 8) (laidMet_of_run' 8 (by kernel_rfl) (by kernel_rfl)) (by kernel_rfl) (by kernel_rfl)
theorem of_laid {W : World} (h : laidMetH Tryd.prog laid W) : G W := by
  rw [MakeChecks.laidMetH_plain _ _ _ (by kernel_rfl)] at h
  obtain ⟨ps, ⟨g0, t0, cs0, f0, p0, q0, hg0, ht0, hv0, hd0, ⟨g1, t1, cs1, f1, p1, q1, hg1, ht1, hv1, hd1, ⟨g2, t2, cs2, f2, p2, q2, hg2, ht2, hv2, hd2, _, _⟩, _⟩, _⟩, _, _⟩ := h
  obtain rfl := Option.some.inj ((show Tryd.prog.globalNamed "trema/ucd.classes" = some 0 by kernel_rfl).symm.trans hg0)
  obtain rfl := Option.some.inj ((show Tryd.prog.globalNamed "trema/ucd.pairs" = some 1 by kernel_rfl).symm.trans hg1)
  obtain rfl := Option.some.inj ((show Tryd.prog.globalNamed "trema/ucd.marks" = some 2 by kernel_rfl).symm.trans hg2)
  obtain rfl := Option.some.inj ((show (Tryd.prog.globals[0]?).map (·.type) = some 100 by kernel_rfl).symm.trans ht0)
  obtain rfl := Option.some.inj ((show (Tryd.prog.globals[1]?).map (·.type) = some 106 by kernel_rfl).symm.trans ht1)
  obtain rfl := Option.some.inj ((show (Tryd.prog.globals[2]?).map (·.type) = some 114 by kernel_rfl).symm.trans ht2)
  rw [d0] at hd0
  rw [d1] at hd1
  rw [d2] at hd2
  have c0 := triples_of_array Tryd.underlying100 Tryd.underlying99 Tryd.underlying21 (by kernel_rfl) (by kernel_rfl) (by kernel_rfl) hd0
  have c1 := triples_of_array Tryd.underlying106 Tryd.underlying99 Tryd.underlying21 (by kernel_rfl) (by kernel_rfl) (by kernel_rfl) hd1
  have c2 := ints_of_array Tryd.underlying114 Tryd.underlying21 (by kernel_rfl) (by kernel_rfl) hd2
  refine ⟨fun j v hv => ?_, fun j v hv => ?_, fun j v hv => ?_⟩
  · have := World.var?_cell hg0 hv0 j
    rw [← Array.getElem?_toList, c0, hv] at this
    simpa using this
  · have := World.var?_cell hg1 hv1 j
    rw [← Array.getElem?_toList, c1, hv] at this
    simpa using this
  · have := World.var?_cell hg2 hv2 j
    rw [← Array.getElem?_toList, c2, hv] at this
    simpa using this
end Go.Proofs.YtiggjbclbdikmaaDoor.Lv

/-
  From a row's reading of an argument to what a walk wants of it: kinds (Kd) that open the readings of a type.
-/
namespace Go.Proofs.YtiggjbclbdikmaaDoor.Od
set_option linter.unusedVariables false
set_option linter.unusedSimpArgs false
open Go.RowKit Go.Proofs.YtiggjbclbdikmaaDoorW.PrintWords Go.Proofs.YtiggjbclbdikmaaDoor.Hp Go.ChangeShapes Go.WideShapes

/-- Each reading of type t tells an a of kind d, fit by wf, of a bulk that the reading's bears. -/
def Opens {α : Type} (P : Program) (t : TypeId) (d : Kd α) (wf : α → Prop) (bulk : α → Nat) : Prop :=
  ∀ (H : Type) (enc : TypeId × Value → H) (w : World) (base : Nat) (spare : Nat → Bool) (held : Bool) (fuel : Nat) (cs : List Value) (x : DataW H × List MemPlace),
    DataW.trod enc P w base spare held fuel t cs = some x → ∃ a, d.K w a cs ∧ wf a ∧ bulk a ≤ Rows.uptoBulk x.1

def sumB {α : Type} (bulk : α → Nat) : List α → Nat
  | [] => 0
  | a :: l => bulk a + sumB bulk l
theorem sumB_mem {α : Type} {bulk : α → Nat} {l : List α} {a : α} (h : a ∈ l) : bulk a ≤ sumB bulk l := by
  induction l with
  | nil => cases h
  | cons x l ih =>
    simp only [sumB]
    rcases List.mem_cons.1 h with rfl | h
    · omega
    · have := ih h; omega
theorem sumB_len {α : Type} {bulk : α → Nat} (h1 : ∀ a, 1 ≤ bulk a) (l : List α) : l.length ≤ sumB bulk l := by
  induction l with
  | nil => simp [sumB]
  | cons x l ih => simp only [sumB, List.length_cons]; have := h1 x; omega
theorem bulkAll_append {H : Type} (l r : List (DataW H)) : Rows.uptoBulkAll (l ++ r) = Rows.uptoBulkAll l + Rows.uptoBulkAll r := by
  induction l with
  | nil => simp [Rows.uptoBulkAll]
  | cons x l ih => simp only [List.cons_append, Rows.uptoBulkAll, ih]; omega
theorem bulkAll_mem {H : Type} {d : DataW H} {l : List (DataW H)} (h : d ∈ l) : Rows.uptoBulk d ≤ Rows.uptoBulkAll l := by
  induction l with
  | nil => cases h
  | cons x r ih =>
    simp only [Rows.uptoBulkAll]
    rcases List.mem_cons.1 h with rfl | h
    · omega
    · have := ih h; omega

section
variable {P : Program}
theorem opens_int {t : TypeId} {k : IntKind} (ht : P.underlying t = some (.int k)) : Opens P t (Kd.int k) (fun n => (Lit.int k n).wf = true) (fun _ => 1) := by
  intro H enc w base spare held fuel cs x h
  obtain ⟨n, rfl, rfl, hw⟩ := DataW.trod_int ht h
  exact ⟨n, rfl, hw, by simp [Rows.uptoBulk]⟩
theorem opens_string {t : TypeId} (ht : P.underlying t = some .string) : Opens P t Kd.string (fun s => s.size ≤ maxLen) (fun s => s.size + 1) := by
  intro H enc w base spare held fuel cs x h
  obtain ⟨s, rfl, rfl, hw⟩ := DataW.trod_string ht h
  refine ⟨s, rfl, hw, ?_⟩
  have e : s.data.toList.length = s.size := by rw [Array.length_toList]; rfl
  simp only [Rows.uptoBulk]
  omega

theorem slice_list {α : Type} {d : Kd α} {wf : α → Prop} {bulk : α → Nat} {e : TypeId} {H : Type} {enc : TypeId × Value → H} {w : World} {base : Nat} {spare : Nat → Bool} {held : Bool} (ho : Opens P e d wf bulk) (hC : P.cellsOf e = d.sz) {a : Addr} {m n : Nat} {D : Nat → DataW H} {Pl : Nat → List MemPlace}
    (hx : ∀ i, i < m → ∃ cs', w.cells? base (a.add (i * P.cellsOf e)) (P.cellsOf e) = some cs' ∧ DataW.trod enc P w base spare held n e cs' = some (D i, Pl i)) (len : Nat) (hl : len ≤ m) (hM : len ≤ 9223372036854775807) :
    ∃ xs : List α, xs.length = len ∧ d.C w (some a) len xs ∧ (∀ x, x ∈ xs → wf x) ∧ sumB bulk xs ≤ Rows.uptoBulkAll ((List.range len).map D) := by
  have key : ∀ k, k ≤ len → ∃ xs : List α, xs.length = k ∧ (∀ j p, xs[j]? = some p → ∃ c, c.length = d.sz ∧ d.K w p c ∧ ∀ i u, c[i]? = some u → w.cell? (a.add (j * d.sz + i)) = some u) ∧ (∀ x, x ∈ xs → wf x) ∧ sumB bulk xs ≤ Rows.uptoBulkAll ((List.range k).map D) := by
    intro k
    induction k with
    | zero => exact fun _ => ⟨[], rfl, by simp, by simp, by simp [sumB]⟩
    | succ k ih =>
      intro hk
      obtain ⟨xs, h1, h2, h3, h4⟩ := ih (by omega)
      obtain ⟨cs', hc, ht⟩ := hx k (by omega)
      obtain ⟨p, hK, hw, hb⟩ := ho H enc w base spare held n cs' _ ht
      obtain ⟨_, hcl, hcell⟩ := World.cells?_some hc
      refine ⟨xs ++ [p], by simp [h1], ?_, ?_, ?_⟩
      · intro j q hq
        rw [List.getElem?_append] at hq
        split at hq
        · exact h2 j q hq
        · rename_i hge
          rcases Nat.lt_or_ge (j - xs.length) 1 with h5 | h5
          · have hj : j = k := by omega
            subst hj
            rw [h1, Nat.sub_self] at hq
            simp at hq
            subst hq
            refine ⟨cs', by rw [hcl, hC], hK, fun i u hu => ?_⟩
            have hi : i < P.cellsOf e := by rw [← hcl]; exact (List.getElem?_eq_some_iff.1 hu).1
            have := hcell i hi
            rw [Go.Deep.add_add, hC] at this
            rw [this, hu]
          · rw [List.getElem?_eq_none (by simpa using h5)] at hq; cases hq
      · intro x hx
        rcases List.mem_append.1 hx with hx | hx
        · exact h3 x hx
        · rw [List.mem_singleton.1 hx]; exact hw
      · have e2 : sumB bulk (xs ++ [p]) = sumB bulk xs + bulk p := by
          clear h1 h2 h3 h4
          induction xs with
          | nil => simp [sumB]
          | cons y ys ih2 => simp only [List.cons_append, sumB, ih2]; omega
        rw [e2, List.range_succ, List.map_append, bulkAll_append]
        simp only [List.map_cons, List.map_nil, Rows.uptoBulkAll]
        have hb2 : bulk p ≤ Rows.uptoBulk (D k) := hb
        omega
  obtain ⟨xs, h1, h2, h3, h4⟩ := key len (Nat.le_refl _)
  exact ⟨xs, h1, ⟨h1, hM, fun _ => ⟨a, rfl, h2⟩⟩, h3, h4⟩

theorem opens_slice {α : Type} {d : Kd α} {wf : α → Prop} {bulk : α → Nat} {t e : TypeId} (ht : P.underlying t = some (.slice e)) (hC : P.cellsOf e = d.sz) (ho : Opens P e d wf bulk) :
    Opens P t (Kd.slice e d) (fun xs => ∀ x, x ∈ xs → wf x) (fun xs => sumB bulk xs + 1) := by
  intro H enc w base spare held fuel cs x h
  rcases Go.Deep.open_slice ht h with ⟨rfl, rfl⟩ | ⟨a, len, cap, m, n, D, Pl, rfl, hb, hl, hm, hmm, rfl, hx⟩
  · exact ⟨[], ⟨none, 0, rfl, Nat.le_refl _, Kd.C_nil d w⟩, by simp, by simp [sumB, Rows.uptoBulk]⟩
  · obtain ⟨xs, h1, h2, h3, h4⟩ := slice_list ho hC hx len (by rw [hmm]; split <;> omega) (by simp only [maxLen] at hm; omega)
    subst h1
    refine ⟨xs, ⟨some a, cap, rfl, hl, h2⟩, h3, ?_⟩
    simp only [Rows.uptoBulk]
    omega

theorem opens_struct2 {α β : Type} {d0 : Kd α} {d1 : Kd β} {wf0 : α → Prop} {wf1 : β → Prop} {b0 : α → Nat} {b1 : β → Nat} {t : TypeId} {fs : Array Field} {f0 f1 : Field} (ht : P.underlying t = some (.struct fs)) (hn : fs.size = 2) (e0 : fs[0]? = some f0) (e1 : fs[1]? = some f1)
    (o0 : f0.offset = 0) (o1 : f1.offset = d0.sz) (c0 : P.cellsOf f0.type = d0.sz) (c1 : P.cellsOf f1.type = d1.sz) (hC : P.cellsOf t = d0.sz + d1.sz) (h0 : Opens P f0.type d0 wf0 b0) (h1 : Opens P f1.type d1 wf1 b1) :
    Opens P t (Kd.pair d0 d1) (fun x => wf0 x.1 ∧ wf1 x.2) (fun x => b0 x.1 + b1 x.2 + 1) := by
  intro H enc w base spare held fuel cs x h
  obtain ⟨xs, n, _, rfl, hl, hxl, hf⟩ := DataW.trod_struct ht h
  have g0 := hf 0 f0 e0
  have g1 := hf 1 f1 e1
  match xs, hxl.trans hn with
  | [y0, y1], _ =>
    simp only [List.getElem?_cons_zero, List.getElem?_cons_succ] at g0 g1
    rw [o0, c0] at g0
    rw [o1, c1] at g1
    obtain ⟨a, ka, wa, ba⟩ := h0 H enc w base spare held n _ _ g0
    obtain ⟨b, kb, wb, bb⟩ := h1 H enc w base spare held n _ _ g1
    refine ⟨(a, b), ⟨_, _, ?_, ka, kb⟩, ⟨wa, wb⟩, ?_⟩
    · rw [List.drop_zero, List.take_of_length_le (i := d1.sz) (by rw [List.length_drop]; omega), List.take_append_drop]
    · simp only [List.map_cons, List.map_nil, Rows.uptoBulk, Rows.uptoBulkAll]
      omega

/-- An argument that is a slice. -/
theorem arg_slice {α : Type} {d : Kd α} {wf : α → Prop} {bulk : α → Nat} {t e : TypeId} (ht : P.underlying t = some (.slice e)) (hC : P.cellsOf e = d.sz) (ho : Opens P e d wf bulk)
    {H : Type} {enc : TypeId × Value → H} {w : World} {base : Nat} {spare : Nat → Bool} {held : Bool} {v : Value} {data : DataW H} {ps : List MemPlace} {r : Reach} {b0 : Nat} (hv : Value.okWide P w r b0 t v) (h : DataW.Trod enc P w base spare held t v data ps) :
    ∃ A xs c, v = .slice A xs.length c ∧ xs.length ≤ c ∧ d.C w A xs.length xs ∧ (∀ x, x ∈ xs → wf x) ∧ sumB bulk xs + 1 ≤ Rows.uptoBulk data ∧
      (∀ (ts : List TypeId) (ds : List (DataW H)) (j B : Nat), (DataW.weightsEach P ts ds).all (· ≤ reachBytes) = true → ts[j]? = some t → ds[j]? = some data → P.bytesOf e = B → xs.length * B ≤ 140737488351232) := by
  obtain ⟨a0, len0, cap0, rfl⟩ := okWide_slice ht hv
  obtain ⟨fuel, hf⟩ := h
  rcases Go.Deep.open_slice ht hf with ⟨hcs, hx⟩ | ⟨a, len, cap, m, n, D, Pl, hcs, hb, hl, hm, hmm, hx, hi⟩
  · simp [Value.cells] at hcs
    obtain ⟨rfl, rfl, rfl⟩ := hcs
    obtain ⟨rfl, rfl⟩ := Prod.mk.inj hx
    exact ⟨none, [], 0, rfl, Nat.le_refl _, Kd.C_nil d w, by simp, by simp [sumB, Rows.uptoBulk], by simp⟩
  · simp [Value.cells] at hcs
    obtain ⟨rfl, rfl, rfl⟩ := hcs
    obtain ⟨rfl, rfl⟩ := Prod.mk.inj hx
    obtain ⟨xs, h1, h2, h3, h4⟩ := slice_list ho hC hi len0 (by rw [hmm]; split <;> omega) (by simp only [maxLen] at hm; omega)
    subst h1
    refine ⟨some a, xs, cap0, rfl, hl, h2, h3, by simp only [Rows.uptoBulk]; omega, ?_⟩
    intro ts ds j B hsz htj hdj hB
    have z := sized_slice hsz htj hdj ht
    rw [hB] at z
    have hr : reachBytes = 140737488351232 := by decide
    simp only [List.length_map, List.length_range] at z
    rw [hr] at z
    exact Nat.le_trans (Nat.mul_le_mul_right _ (by omega)) z
end
end Go.Proofs.YtiggjbclbdikmaaDoor.Od
