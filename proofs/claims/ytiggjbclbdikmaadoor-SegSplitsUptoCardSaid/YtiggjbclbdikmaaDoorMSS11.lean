/-
  Several texts of this claim in one: what its law's proof uses.
-/
import Derived.Test.YtiggjbclbdikmaaDoorMSS2
import Derived.Test.YtiggjbclbdikmaaDoorMSS10
import Derived.Test.YtiggjbclbdikmaaDoorMSS9
import Derived.WalkSpells
import Derived.WalkLawsBesides
namespace Go.Proofs.YtiggjbclbdikmaaDoor.X
open Go.RowKit Go.Proofs.YtiggjbclbdikmaaDoorW.PrintWords Go.Proofs.YtiggjbclbdikmaaDoorW.PrintLast Go.Proofs.YtiggjbclbdikmaaDoorW.PrintMore
attribute [local go_sem] max2_int min2_int max_two min_two max_three min_three max_four min_four   
set_option linter.unusedVariables false
set_option linter.unusedSimpArgs false
def tremaref01_Decode.l0 : Nat → List Int → Bool → List (S75) → Int → Option ((List (S75)))
 | 0, _, _, _, _ => none
 | k + 1, x0, x1, x5, x6 => if x6 < (x0.length : Int) then ((tremaref01_At.f k x0 x6).bind fun bt267 => (if x1 = true then (if bt267.2.2 = true then (some x5) else (if x5.length < 5864062014805 then (tremaref01_Decode.l0 k x0 x1 (x5 ++ [(⟨bt267.1, x6, bt267.2.1⟩ : S75)]) (wrap64 (x6 + bt267.2.1))) else (none))) else (if x5.length < 5864062014805 then (tremaref01_Decode.l0 k x0 x1 (x5 ++ [(⟨bt267.1, x6, bt267.2.1⟩ : S75)]) (wrap64 (x6 + bt267.2.1))) else (none)))) else (some x5)
def tremaref01_Decode.f (k : Nat) (l0 : List Int) (a1 : Bool) : Option ((List (S75))) := tremaref01_Decode.l0 k l0 a1 ([] : List (S75)) 0
theorem tremaref01_Decode.mono_l : ∀ k, (∀ y0 y1 y2 y3, LeO (tremaref01_Decode.l0 k y0 y1 y2 y3) (tremaref01_Decode.l0 (k + 1) y0 y1 y2 y3))
 | 0 => fun _ _ _ _ r h => by simp [tremaref01_Decode.l0] at h
 | k + 1 => by
  have ih0 := tremaref01_Decode.mono_l k
  ·intro y0 y1 y2 y3
   unfold tremaref01_Decode.l0
   repeat' first
   | (with_reducible exact ih0 _ _ _ _)
   | (with_reducible exact tremaref01_At.mono _ _ _)
   | (with_reducible exact LeO.refl _)
   | (with_reducible exact LeO.none _)
   | (with_reducible refine LeO.ite ?_ ?_)
   | (with_reducible refine LeO.bind ?_ (fun _ => ?_))
   | exact ih0 _ _ _ _
   | exact tremaref01_At.mono _ _ _
   | exact LeO.none _
   | refine LeO.ite ?_ ?_
   | refine LeO.bind ?_ (fun _ => ?_)
theorem tremaref01_Decode.mono : ∀ a0 a1 k, LeO (tremaref01_Decode.f k a0 a1) (tremaref01_Decode.f (k + 1) a0 a1) := by
 intro a0 a1 k
 have ih0 := tremaref01_Decode.mono_l k
 unfold tremaref01_Decode.f
 repeat' first
   | (with_reducible exact ih0 _ _ _ _)
   | (with_reducible exact tremaref01_At.mono _ _ _)
   | (with_reducible exact LeO.refl _)
   | (with_reducible exact LeO.none _)
   | (with_reducible refine LeO.ite ?_ ?_)
   | (with_reducible refine LeO.bind ?_ (fun _ => ?_))
   | exact ih0 _ _ _ _
   | exact tremaref01_At.mono _ _ _
   | exact LeO.none _
   | refine LeO.ite ?_ ?_
   | refine LeO.bind ?_ (fun _ => ?_)
set_option maxHeartbeats 8000000 in
set_option maxRecDepth 100000 in
theorem tremaref01_Decode.calls (k : Nat) (A0 : Option Addr) (c0 : Nat) (l0 : List Int) (a1 : Bool) (r : List (S75)) (w : World) (hr0 : Kd.C (Kd.int .u8) w A0 l0.length l0) (hc0 : l0.length ≤ c0) (h : tremaref01_Decode.f k l0 a1 = some r) :
  Calls Tryd.prog 59 #[.slice A0 l0.length c0, .bool a1] w fun e w' => ∃ v0_ : Value, e = .returned (v0_) ∧ Kd.R k75 75 w' w.heap.size (fun _ => True) v0_ r ∧ Below w.heap.size w w' := by
 have hu75 := Tryd.underlying75
 have HR0 := Aside0.mk hr0
 have HC0 := Aside0.mk hc0
 clear hr0 hc0
 have HB := Aside0.mk (Below.refl w.heap.size w)
 have H : (tremaref01_Decode.l0 k l0 a1 ([] : List (S75)) 0) = some r := h
 clear h
 have H' := Aside0.mk H
 clear H
 go_enter Tryd.func59, Tryd.ntmps59
 go_wp2
 go_loopg [5, 6] k (fun kq v5 v6 w' => ∃ (x5_1 : List (S75)) (x6_1 : Int), v6 = .int .i64 x6_1 ∧ Aside0 (tremaref01_Decode.l0 kq l0 a1 x5_1 x6_1 = some r) ∧ Aside0 (kq ≤ k) ∧ Aside0 (Kd.R k75 75 w' w.heap.size (fun _ => True) v5 x5_1) ∧ Aside0 (Below w.heap.size w w'))
 case atStart => exact ⟨(([] : List (S75))), (0), (by first | rfl | (simp; done) | (simp [*]; done)), H', ⟨Nat.le_refl _⟩, ⟨by first | exact Kd.R_nil _ _ _ _ _ | exact Kd.N_nil _ _ _ _ _ | exact Kd.V_nil _ _ _ _ _ | exact Kd.Q_nil _ _ _ _ _ | exact Kd.S_nil _ _ _ _ _⟩, ⟨by repeat (first | (with_reducible first | exact HB.out | apply below_alloc | apply pw_below_drewN | apply below_drew1) | exact HB.out)⟩⟩
 case round =>
  clear H'
  try clear p2
  obtain ⟨x5_1, x6_1, rfl, HA, HK1, HO_5, HB⟩ := hrel
  cases gk with
  | zero => exact absurd HA.out (by simp [tremaref01_Decode.l0])
  | succ k1 =>
   have H := HA.out
   clear HA
   simp only [tremaref01_Decode.l0] at H
   by_cases c3 : x6_1 < (l0.length : Int)
   ·rw [if_pos c3] at H
    have c3b0 : decide (x6_1 < (l0.length : Int)) = true := decide_eq_true c3
    clear c3
    replace H := Option.bind_eq_some_iff.mp H
    obtain ⟨⟨t267, t268, t269⟩, A40, H⟩ := H
    replace H : (if a1 = true then (if t269 = true then (some x5_1) else (if x5_1.length < 5864062014805 then (tremaref01_Decode.l0 k1 l0 a1 (x5_1 ++ [(⟨t267, x6_1, t268⟩ : S75)]) (wrap64 (x6_1 + t268))) else (none))) else (if x5_1.length < 5864062014805 then (tremaref01_Decode.l0 k1 l0 a1 (x5_1 ++ [(⟨t267, x6_1, t268⟩ : S75)]) (wrap64 (x6_1 + t268))) else (none))) = some r := H
    have A4 := Aside0.mk A40
    clear A40
    by_cases c5 : a1 = true
    ·subst c5
     have H1 : (if t269 = true then (some x5_1) else (if x5_1.length < 5864062014805 then (tremaref01_Decode.l0 k1 l0 true (x5_1 ++ [(⟨t267, x6_1, t268⟩ : S75)]) (wrap64 (x6_1 + t268))) else (none))) = some r := by rw [if_pos rfl] at H; exact H
     clear H
     have H := H1
     clear H1
     by_cases c6 : t269 = true
     ·subst c6
      have H1 : (some x5_1) = some r := by rw [if_pos rfl] at H; exact H
      clear H
      have H := H1
      clear H1
      obtain rfl := Option.some.inj H
      go_wp2_with (first | ((with_reducible refine gate_callee (f := 81) rfl ?_); refine goesL_ (some 17) rfl rfl Tryd.func81 (by kernel_rfl) rfl #[.slice A0 l0.length c0, .int .i64 x6_1] rfl (by (try simp only [List.map_toArray, List.map_cons, List.map_nil]); first | done | rfl | (simp only [List.length_drop, List.length_take]; rfl)) ?_; (with_reducible refine (tremaref01_At.calls k1 _ _ l0 x6_1 t267 t268 true _ ?side1 ?side2 A4.out).mono ?_); (case side1 => repeat (first | exact (Kd.C_below HR0.out HB.out) | (with_reducible refine Kd.C_alloc ?_ _) | (with_reducible refine Kd.C_drewN ?_ _) | (with_reducible refine Kd.C_drew ?_))); (case side2 => exact HC0.out); rintro e w7 ⟨rfl, hb⟩; refine ⟨_, rfl, ?_⟩; have n0_ := Aside0.mk (Kd.R_below (by (with_reducible repeat (first | apply Kd.R_alloc | apply Kd.R_drewN | apply Kd.R_drew)); exact HO_5.out) hb); have n1_ := Aside0.mk (below_step (by repeat (first | (with_reducible first | exact HB.out | apply below_alloc | apply pw_below_drewN | apply below_drew1) | exact HB.out)) hb); clear HO_5; clear HB; have HO_5 := n0_; have HB := n1_; clear n0_ n1_; (try clear hb); (try clear hb2); (try clear hk); (try clear hi)))
      go_ret
      exact ⟨_, by first | rfl | (simp [errW_none, errW_some] <;> rfl) | (simp [*, errW_none, errW_some] <;> rfl), by (with_reducible repeat (first | apply Kd.R_alloc | apply Kd.R_drewN | apply Kd.R_drew)); exact HO_5.out, by repeat (first | (with_reducible first | exact HB.out | apply below_alloc | apply pw_below_drewN | apply below_drew1) | exact HB.out)⟩
     ·replace c6 := Bool.eq_false_iff.mpr c6
      subst c6
      have H1 : (if x5_1.length < 5864062014805 then (tremaref01_Decode.l0 k1 l0 true (x5_1 ++ [(⟨t267, x6_1, t268⟩ : S75)]) (wrap64 (x6_1 + t268))) else (none)) = some r := by rw [if_neg (show ¬ (false = true) by decide)] at H; exact H
      clear H
      have H := H1
      clear H1
      by_cases c8 : x5_1.length < 5864062014805
      ·rw [if_pos c8] at H
       have LMc8 := Aside0.mk c8
       clear c8
       obtain ⟨y270, hy270⟩ : ∃ y_ : List (S75), y_ = (x5_1 ++ [(⟨t267, x6_1, t268⟩ : S75)]) := ⟨_, rfl⟩
       replace H : (tremaref01_Decode.l0 k1 l0 true y270 (wrap64 (x6_1 + t268))) = some r := by first | (rw [hy270]; with_reducible exact H) | (have H2_ := (Option.bind_some _ _).symm.trans H; rw [hy270]; with_reducible exact H2_) | (have H2_ := (Option.bind_some _ _).symm.trans H; with_reducible exact H2_) | with_reducible exact H | (rw [hy270]; exact H) | exact H
       have Ny270 := Aside0.mk hy270
       clear hy270
       have H' := Aside0.mk H
       clear H
       go_wp2_with (first | ((with_reducible refine gate_callee (f := 81) rfl ?_); refine goesL_ (some 17) rfl rfl Tryd.func81 (by kernel_rfl) rfl #[.slice A0 l0.length c0, .int .i64 x6_1] rfl (by (try simp only [List.map_toArray, List.map_cons, List.map_nil]); first | done | rfl | (simp only [List.length_drop, List.length_take]; rfl)) ?_; (with_reducible refine (tremaref01_At.calls k1 _ _ l0 x6_1 t267 t268 false _ ?side1 ?side2 A4.out).mono ?_); (case side1 => repeat (first | exact (Kd.C_below HR0.out HB.out) | (with_reducible refine Kd.C_alloc ?_ _) | (with_reducible refine Kd.C_drewN ?_ _) | (with_reducible refine Kd.C_drew ?_))); (case side2 => exact HC0.out); rintro e w9 ⟨rfl, hb⟩; refine ⟨_, rfl, ?_⟩; have n0_ := Aside0.mk (Kd.R_below (by (with_reducible repeat (first | apply Kd.R_alloc | apply Kd.R_drewN | apply Kd.R_drew)); exact HO_5.out) hb); have n1_ := Aside0.mk (below_step (by repeat (first | (with_reducible first | exact HB.out | apply below_alloc | apply pw_below_drewN | apply below_drew1) | exact HB.out)) hb); clear HO_5; clear HB; have HO_5 := n0_; have HB := n1_; clear n0_ n1_; (try clear hb); (try clear hb2); (try clear hk); (try clear hi)) | ((with_reducible refine gate_builtin (b := .append) (xs := #[.tmp 26, .tmp 31]) rfl ?_); at_builtin; refine Kd.R_append k75 (w0 := w) w.heap.size rfl (.tmp 26) (.tmp 31) 72 75 (.agg #[(.int .i32 0), (.int .i64 0), (.int .i64 0)]) 24 rfl Tryd.underlying72 info75 rfl (by decide) (by omega) u5 x5_1 (⟨t267, x6_1, t268⟩ : S75) [.int .i32 t267, .int .i64 x6_1, .int .i64 t268] (fun _ => True) (fun _ => False) rfl rfl ?aP (fun _ hk => hk.elim) ?aF ?aO ?aB ?aS ?aL ?_; (case aP => exact k75_mkM _ _ _ (⟨t267, x6_1, t268⟩ : S75)); (case aB => exact (by repeat (first | (with_reducible first | exact HB.out | apply below_alloc | apply pw_below_drewN | apply below_drew1) | exact HB.out))); (case aF => exact (fun _ _ => trivial)); (case aO => exact (by (with_reducible repeat (first | apply Kd.R_alloc | apply Kd.R_drewN | apply Kd.R_drew)); exact HO_5.out)); (case aS => exact (below_size (by repeat (first | (with_reducible first | exact HB.out | apply below_alloc | apply pw_below_drewN | apply below_drew1) | exact HB.out)))); (case aL => have := LMc8.out; omega); intro v271 w10 ho hb hg hat; rw [← Ny270.out] at ho; have n0_ := Aside0.mk (hb); have n1_ := Aside0.mk (ho); clear HB; clear HO_5; have HB := n0_; have HO272 := n1_; clear n0_ n1_; clear ho hb hg hat))
       go_roundg k1
       case measure => have := HK1.out; omega
       case rel => exact ⟨(y270), (wrap64 (x6_1 + t268)), (by first | rfl | (simp; done) | (simp [*]; done)), H', ⟨by have := HK1.out; omega⟩, ⟨by (with_reducible repeat (first | apply Kd.R_alloc | apply Kd.R_drewN | apply Kd.R_drew)); exact HO272.out⟩, ⟨by repeat (first | (with_reducible first | exact HB.out | apply below_alloc | apply pw_below_drewN | apply below_drew1) | exact HB.out)⟩⟩
      ·rw [if_neg c8] at H
       exact absurd H (by simp)
    ·replace c5 := Bool.eq_false_iff.mpr c5
     subst c5
     have H1 : (if x5_1.length < 5864062014805 then (tremaref01_Decode.l0 k1 l0 false (x5_1 ++ [(⟨t267, x6_1, t268⟩ : S75)]) (wrap64 (x6_1 + t268))) else (none)) = some r := by rw [if_neg (show ¬ (false = true) by decide)] at H; exact H
     clear H
     have H := H1
     clear H1
     by_cases c11 : x5_1.length < 5864062014805
     ·rw [if_pos c11] at H
      have LMc11 := Aside0.mk c11
      clear c11
      obtain ⟨y273, hy273⟩ : ∃ y_ : List (S75), y_ = (x5_1 ++ [(⟨t267, x6_1, t268⟩ : S75)]) := ⟨_, rfl⟩
      replace H : (tremaref01_Decode.l0 k1 l0 false y273 (wrap64 (x6_1 + t268))) = some r := by first | (rw [hy273]; with_reducible exact H) | (have H2_ := (Option.bind_some _ _).symm.trans H; rw [hy273]; with_reducible exact H2_) | (have H2_ := (Option.bind_some _ _).symm.trans H; with_reducible exact H2_) | with_reducible exact H | (rw [hy273]; exact H) | exact H
      have Ny273 := Aside0.mk hy273
      clear hy273
      have H' := Aside0.mk H
      clear H
      go_wp2_with (first | ((with_reducible refine gate_callee (f := 81) rfl ?_); refine goesL_ (some 17) rfl rfl Tryd.func81 (by kernel_rfl) rfl #[.slice A0 l0.length c0, .int .i64 x6_1] rfl (by (try simp only [List.map_toArray, List.map_cons, List.map_nil]); first | done | rfl | (simp only [List.length_drop, List.length_take]; rfl)) ?_; (with_reducible refine (tremaref01_At.calls k1 _ _ l0 x6_1 t267 t268 t269 _ ?side1 ?side2 A4.out).mono ?_); (case side1 => repeat (first | exact (Kd.C_below HR0.out HB.out) | (with_reducible refine Kd.C_alloc ?_ _) | (with_reducible refine Kd.C_drewN ?_ _) | (with_reducible refine Kd.C_drew ?_))); (case side2 => exact HC0.out); rintro e w12 ⟨rfl, hb⟩; refine ⟨_, rfl, ?_⟩; have n0_ := Aside0.mk (Kd.R_below (by (with_reducible repeat (first | apply Kd.R_alloc | apply Kd.R_drewN | apply Kd.R_drew)); exact HO_5.out) hb); have n1_ := Aside0.mk (below_step (by repeat (first | (with_reducible first | exact HB.out | apply below_alloc | apply pw_below_drewN | apply below_drew1) | exact HB.out)) hb); clear HO_5; clear HB; have HO_5 := n0_; have HB := n1_; clear n0_ n1_; (try clear hb); (try clear hb2); (try clear hk); (try clear hi)) | ((with_reducible refine gate_builtin (b := .append) (xs := #[.tmp 26, .tmp 31]) rfl ?_); at_builtin; refine Kd.R_append k75 (w0 := w) w.heap.size rfl (.tmp 26) (.tmp 31) 72 75 (.agg #[(.int .i32 0), (.int .i64 0), (.int .i64 0)]) 24 rfl Tryd.underlying72 info75 rfl (by decide) (by omega) u5 x5_1 (⟨t267, x6_1, t268⟩ : S75) [.int .i32 t267, .int .i64 x6_1, .int .i64 t268] (fun _ => True) (fun _ => False) rfl rfl ?aP (fun _ hk => hk.elim) ?aF ?aO ?aB ?aS ?aL ?_; (case aP => exact k75_mkM _ _ _ (⟨t267, x6_1, t268⟩ : S75)); (case aB => exact (by repeat (first | (with_reducible first | exact HB.out | apply below_alloc | apply pw_below_drewN | apply below_drew1) | exact HB.out))); (case aF => exact (fun _ _ => trivial)); (case aO => exact (by (with_reducible repeat (first | apply Kd.R_alloc | apply Kd.R_drewN | apply Kd.R_drew)); exact HO_5.out)); (case aS => exact (below_size (by repeat (first | (with_reducible first | exact HB.out | apply below_alloc | apply pw_below_drewN | apply below_drew1) | exact HB.out)))); (case aL => have := LMc11.out; omega); intro v274 w13 ho hb hg hat; rw [← Ny273.out] at ho; have n0_ := Aside0.mk (hb); have n1_ := Aside0.mk (ho); clear HB; clear HO_5; have HB := n0_; have HO275 := n1_; clear n0_ n1_; clear ho hb hg hat))
      go_roundg k1
      case measure => have := HK1.out; omega
      case rel => exact ⟨(y273), (wrap64 (x6_1 + t268)), (by first | rfl | (simp; done) | (simp [*]; done)), H', ⟨by have := HK1.out; omega⟩, ⟨by (with_reducible repeat (first | apply Kd.R_alloc | apply Kd.R_drewN | apply Kd.R_drew)); exact HO275.out⟩, ⟨by repeat (first | (with_reducible first | exact HB.out | apply below_alloc | apply pw_below_drewN | apply below_drew1) | exact HB.out)⟩⟩
     ·rw [if_neg c11] at H
      exact absurd H (by simp)
   ·rw [if_neg c3] at H
    have c3b0 : decide (x6_1 < (l0.length : Int)) = false := decide_eq_false c3
    clear c3
    obtain rfl := Option.some.inj H
    go_wp2
    go_ret
    exact ⟨_, by first | rfl | (simp [errW_none, errW_some] <;> rfl) | (simp [*, errW_none, errW_some] <;> rfl), by (with_reducible repeat (first | apply Kd.R_alloc | apply Kd.R_drewN | apply Kd.R_drew)); exact HO_5.out, by repeat (first | (with_reducible first | exact HB.out | apply below_alloc | apply pw_below_drewN | apply below_drew1) | exact HB.out)⟩
end Go.Proofs.YtiggjbclbdikmaaDoor.X
namespace Go.Proofs.YtiggjbclbdikmaaDoor.Ux
set_option linter.unusedVariables false
set_option linter.unusedSimpArgs false
open Go.RowKit Go.Proofs.YtiggjbclbdikmaaDoorW.PrintWords Go.Proofs.YtiggjbclbdikmaaDoor.Hp Go.Proofs.YtiggjbclbdikmaaDoor.X
def bnd (c : Int) : Option (List (Int × Int)) :=
  if c < 128 then some []
  else if c < 194 ∨ 244 < c then none
  else if c < 224 then some [(128, 191)]
  else if c < 240 then some [(if c = 224 then 160 else 128, if c = 237 then 159 else 191), (128, 191)]
  else some [(if c = 240 then 144 else 128, if c = 244 then 143 else 191), (128, 191), (128, 191)]
def st (c : Int) : Int := if c < 128 then c else if c < 224 then c % 32 else if c < 240 then c % 16 else c % 8
def cont : List (Int × Int) → List Int → Int → Int → Int × Int × Bool
  | [], _, r, i => (r, i, false)
  | _ :: _, [], _, i => (65533, i, true)
  | (lo, hi) :: bs, x :: t, r, i => if x < lo ∨ hi < x then (65533, i, false) else cont bs t (r * 64 + x % 64) (i + 1)
def one1 (c : Int) (t : List Int) : Int × Int × Bool :=
  match bnd c with
  | none => (65533, 1, false)
  | some bs => cont bs t (st c) 1
def Bytes (l : List Int) : Prop := ∀ x, x ∈ l → 0 ≤ x ∧ x ≤ 255
theorem cont_width : ∀ (bs : List (Int × Int)) (t : List Int) (r i : Int), i ≤ (cont bs t r i).2.1 ∧ (cont bs t r i).2.1 ≤ i + bs.length ∧ (cont bs t r i).2.1 ≤ i + t.length
  | [], t, r, i => by simp [cont]; omega
  | b :: bs, [], r, i => by simp [cont]; omega
  | (lo, hi) :: bs, x :: t, r, i => by
    simp only [cont]
    split
    · simp; omega
    · have := cont_width bs t (r * 64 + x % 64) (i + 1)
      simp only [List.length_cons]
      omega
theorem bnd_len {c : Int} {bs : List (Int × Int)} (h : bnd c = some bs) : bs.length ≤ 3 := by
  unfold bnd at h
  split at h
  · cases h; decide
  · split at h
    · cases h
    · split at h
      · cases h; simp
      · split at h
        · cases h; simp
        · cases h; simp
theorem one1_width (c : Int) (t : List Int) : 1 ≤ (one1 c t).2.1 ∧ (one1 c t).2.1 ≤ 4 ∧ (one1 c t).2.1 ≤ 1 + t.length := by
  unfold one1
  cases h : bnd c with
  | none => simp; omega
  | some bs =>
    have h1 := cont_width bs t (st c) 1
    have h2 := bnd_len h
    simp only
    omega
theorem rd_at (l : List Int) (i : Nat) (h : i < l.length) : rd l (i : Int) = l[i] := by simp [rd, List.getD_eq_getElem?_getD, h]
theorem step_r (r x : Int) (h0 : 0 ≤ r) (hr : (r + 1) * 64 ≤ 2097152) (hx : 0 ≤ x ∧ x ≤ 255) : bits .or .i32 (wrap32 (r * 64)) (wrap32 (bits .and .u8 x 63)) = r * 64 + x % 64 := by
  have ea : wrap32 (r * 64) = r * 64 := by unfold wrap32; omega
  have eb : wrap32 (bits .and .u8 x 63) = x % 64 := by rw [u8_and63 x hx.1 (by omega)]; unfold wrap32; omega
  rw [ea, eb]
  exact i32_or6 (r * 64) (x % 64) (by omega) (by omega) (by omega) (by omega) (by omega)
theorem step_p {r x : Int} {p : Nat} (h0 : 0 ≤ r) (hp : 1 ≤ p) (hr : (r + 1) * (64 * p : Nat) ≤ 2097152) : (r + 1) * 64 ≤ 2097152 ∧ (r * 64 + x % 64 + 1) * (p : Int) ≤ 2097152 := by
  have e : ((64 * p : Nat) : Int) = 64 * (p : Int) := by push_cast; rfl
  rw [e, ← Int.mul_assoc] at hr
  have h1 : (r + 1) * 64 * 1 ≤ (r + 1) * 64 * (p : Int) := Int.mul_le_mul_of_nonneg_left (by omega) (by omega)
  have h2 : (r * 64 + x % 64 + 1) * (p : Int) ≤ (r + 1) * 64 * (p : Int) := Int.mul_le_mul_of_nonneg_right (by omega) (by omega)
  exact ⟨by omega, Int.le_trans h2 hr⟩
theorem loop_cont (l : List Int) (hb : Bytes l) (hl : l.length ≤ 140737488355328) : ∀ (bs : List (Int × Int)) (k i : Nat) (r lo hi : Int), (∀ b, b ∈ bs.tail → b = (128, 191)) → (∀ b, bs.head? = some b → b = (lo, hi)) → bs.length < k → 0 ≤ r → (r + 1) * (64 ^ bs.length : Nat) ≤ 2097152 → i ≤ l.length →
    utf_one.l0 k l r ((i : Int) + bs.length) lo hi i = some (cont bs (l.drop i) r i)
  | [], k, i, r, lo, hi, _, _, hk, _, _, _ => by
    obtain ⟨k, rfl⟩ : ∃ m, k = m + 1 := ⟨k - 1, by omega⟩
    simp only [utf_one.l0, List.length_nil]
    rw [if_neg (by omega)]
    simp [cont]
  | (lo', hi') :: bs, k, i, r, lo, hi, ht, hh, hk, h0, hr, hi1 => by
    obtain ⟨k, rfl⟩ : ∃ m, k = m + 1 := ⟨k - 1, by omega⟩
    have e := hh _ rfl
    injection e with e1 e2
    subst e1
    subst e2
    simp only [List.length_cons] at hk hr ⊢
    simp only [utf_one.l0]
    rw [if_pos (by omega)]
    by_cases he : i = l.length
    · rw [if_pos (by omega), List.drop_eq_nil_of_le (by omega)]
      simp [cont]
    · have hlt : i < l.length := by omega
      rw [if_neg (by omega), if_pos (by omega), if_pos (by omega), rd_at l i hlt, List.drop_eq_getElem_cons hlt]
      have hx := hb l[i] (List.getElem_mem hlt)
      obtain ⟨x, hxe⟩ : ∃ x, x = l[i] := ⟨_, rfl⟩
      rw [← hxe] at hx ⊢
      simp only [cont]
      by_cases h1 : x < lo'
      · rw [if_pos h1, if_pos (.inl h1)]
      · rw [if_neg h1]
        by_cases h2 : x > hi'
        · rw [if_pos h2, if_pos (.inr h2)]
        · rw [if_neg h2, if_neg (by omega)]
          have hp := step_p (x := x) h0 (Nat.one_le_pow bs.length 64 (by omega)) (by rw [Nat.pow_succ, Nat.mul_comm] at hr; exact hr)
          have ew : wrap64 ((i : Int) + 1) = ((i + 1 : Nat) : Int) := by clear hr hp; unfold wrap64; omega
          have ei : ((i : Int) + ((bs.length + 1 : Nat) : Int)) = (((i + 1 : Nat) : Int) + (bs.length : Int)) := by clear hr hp; omega
          rw [step_r r x h0 hp.1 hx, ew, ei]
          have h0' : 0 ≤ r * 64 + x % 64 := by clear hr hp; omega
          have ih := loop_cont l hb hl bs k (i + 1) (r * 64 + x % 64) 128 191 (fun b hb => ht b (List.mem_of_mem_tail hb)) (fun b hb2 => ht b (List.mem_of_mem_head? hb2)) (by clear hr hp; omega) h0' hp.2 (by clear hr hp; omega)
          rw [ih]
          push_cast
          rfl
theorem lead_some (c : Int) (h : 0 ≤ c ∧ c ≤ 255) : ∃ lo hi, utf_lead.f 8 c = some ((match bnd c with | none => 0 | some bs => (bs.length : Int) + 1), (match bnd c with | none => 0 | some _ => st c), lo, hi) ∧ ∀ b, (bnd c).bind List.head? = some b → b = (lo, hi) := by
  unfold utf_lead.f bnd st
  by_cases h1 : c < 128
  · simp only [if_pos h1]
    refine ⟨128, 191, ?_, by simp⟩
    have : wrap32 c = c := by unfold wrap32; omega
    simp [this]
  · simp only [if_neg h1]
    by_cases h2 : c < 194
    · simp only [if_pos h2, if_pos (show c < 194 ∨ 244 < c from .inl h2), utf_lead.j0, if_true]
      exact ⟨_, _, rfl, by simp⟩
    · simp only [if_neg h2]
      by_cases h3 : c > 244
      · simp only [if_pos (show c < 194 ∨ 244 < c from .inr h3), decide_eq_true h3, utf_lead.j0, if_true]
        exact ⟨_, _, rfl, by simp⟩
      · simp only [if_neg (show ¬ (c < 194 ∨ 244 < c) by omega), decide_eq_false h3, utf_lead.j0, Bool.false_eq_true, if_false]
        have e31 : wrap32 (bits .and .u8 c 31) = c % 32 := by rw [u8_and31 c h.1 (by omega)]; unfold wrap32; omega
        have e15 : wrap32 (bits .and .u8 c 15) = c % 16 := by rw [u8_and15 c h.1 (by omega)]; unfold wrap32; omega
        have e7 : wrap32 (bits .and .u8 c 7) = c % 8 := by rw [u8_and7 c h.1 (by omega)]; unfold wrap32; omega
        rw [e31, e15, e7]
        by_cases h4 : c < 224
        · simp only [if_pos h4]
          exact ⟨_, _, rfl, by simp⟩
        · simp only [if_neg h4]
          by_cases h5 : c < 240
          · simp only [if_pos h5]
            by_cases h6 : c = 224
            · simp only [if_pos h6]
              exact ⟨_, _, rfl, by subst h6; simp⟩
            · simp only [if_neg h6]
              by_cases h7 : c = 237
              · simp only [if_pos h7]
                exact ⟨_, _, rfl, by subst h7; simp⟩
              · simp only [if_neg h7]
                exact ⟨_, _, rfl, by simp⟩
          · simp only [if_neg h5]
            by_cases h6 : c = 240
            · simp only [if_pos h6]
              exact ⟨_, _, rfl, by subst h6; simp⟩
            · simp only [if_neg h6]
              by_cases h7 : c = 244
              · simp only [if_pos h7]
                exact ⟨_, _, rfl, by subst h7; simp⟩
              · simp only [if_neg h7]
                exact ⟨_, _, rfl, by simp⟩
theorem bnd_tail {c : Int} {bs : List (Int × Int)} (h : bnd c = some bs) : ∀ b, b ∈ bs.tail → b = (128, 191) := by
  unfold bnd at h
  split at h
  · cases h; simp
  · split at h
    · cases h
    · split at h
      · cases h; simp
      · split at h
        · cases h; simp
        · cases h; simp
theorem st_bound {c : Int} {bs : List (Int × Int)} (hc : 0 ≤ c ∧ c ≤ 255) (h : bnd c = some bs) : 0 ≤ st c ∧ (st c + 1) * (64 ^ bs.length : Nat) ≤ 2097152 := by
  unfold bnd at h
  unfold st
  split at h
  · rename_i h1; cases h; rw [if_pos h1]; simp; omega
  · rename_i h1
    rw [if_neg h1]
    split at h
    · cases h
    · split at h
      · rename_i h2; cases h; rw [if_pos h2]; simp; omega
      · rename_i h2
        rw [if_neg h2]
        split at h
        · rename_i h3; cases h; rw [if_pos h3]; simp; omega
        · rename_i h3; cases h; rw [if_neg h3]; simp; omega
theorem one_pure (c : Int) (t : List Int) (hb : Bytes (c :: t)) (hl : (c :: t).length ≤ 140737488355328) : utf_one.f 8 (c :: t) = some (one1 c t) := by
  have hc := hb c List.mem_cons_self
  obtain ⟨lo, hi, hlead, hhead⟩ := lead_some c hc
  unfold utf_one.f
  rw [if_pos (by simp), show rd (c :: t) 0 = c from rfl, hlead]
  simp only [Option.bind_some, one1]
  cases h : bnd c with
  | none => simp
  | some bs =>
    simp only
    rw [if_neg (by omega)]
    have := loop_cont (c :: t) hb hl bs 8 1 (st c) lo hi (bnd_tail h) (fun b hb2 => hhead b (by rw [h]; exact hb2)) (by have := bnd_len h; omega) (st_bound hc h).1 (st_bound hc h).2 (by simp)
    rw [show (bs.length : Int) + 1 = ((1 : Nat) : Int) + bs.length by omega]
    simpa using this
end Go.Proofs.YtiggjbclbdikmaaDoor.Ux
namespace Go.Proofs.YtiggjbclbdikmaaDoor.Ux
set_option linter.unusedVariables false
set_option linter.unusedSimpArgs false
open Go.RowKit Go.Proofs.YtiggjbclbdikmaaDoorW.PrintWords Go.Proofs.YtiggjbclbdikmaaDoor.Hp Go.Proofs.YtiggjbclbdikmaaDoor.X
def flat : List (Int × Int) → List Int
  | [] => []
  | (a, b) :: l => a :: b :: flat l
theorem flat_len : ∀ bs, (flat bs).length = 2 * bs.length
  | [] => rfl
  | (a, b) :: l => by simp [flat, flat_len l]; omega
theorem flat_get : ∀ (bs : List (Int × Int)) (j : Nat) (h : j < bs.length), (flat bs).getD (2 * j) 0 = bs[j].1 ∧ (flat bs).getD (2 * j + 1) 0 = bs[j].2
  | (a, b) :: l, 0, _ => by simp [flat]
  | (a, b) :: l, j + 1, h => by
    have := flat_get l j (by simpa using h)
    rw [show 2 * (j + 1) = 2 * j + 2 by omega, show 2 * j + 2 + 1 = 2 * j + 1 + 2 by omega]
    simpa [flat, List.getD_eq_getElem?_getD] using this
theorem row_some (c : Int) (h : 0 ≤ c ∧ c ≤ 255) : tremaref01_row.f 8 c = some (match bnd c with | none => ([], false) | some bs => (flat bs, true)) := by
  unfold tremaref01_row.f bnd
  by_cases h1 : c < 128
  · rw [if_pos (by omega), if_pos h1]; rfl
  · rw [if_neg (by omega), if_neg h1]
    by_cases h2 : c ≥ 194
    · rw [if_pos h2]
      by_cases h3 : c < 224
      · rw [if_neg (by omega), if_pos h3, decide_eq_true (show c ≤ 223 by omega)]
        simp [tremaref01_row.j0, flat]
      · rw [decide_eq_false (show ¬ c ≤ 223 by omega)]
        simp only [tremaref01_row.j0, Bool.false_eq_true, if_false]
        by_cases h4 : c = 224
        · subst h4; rfl
        · rw [if_neg h4]
          by_cases h5 : c = 237
          · subst h5; rfl
          · rw [if_neg h5, if_pos (by omega)]
            by_cases h6 : c < 240
            · rw [decide_eq_true (show c ≤ 239 by omega), if_neg (by omega), if_neg h3, if_pos h6]
              simp [tremaref01_row.j1, flat, h4, h5]
            · rw [decide_eq_false (show ¬ c ≤ 239 by omega)]
              simp only [tremaref01_row.j1, Bool.false_eq_true, if_false]
              by_cases h7 : c = 240
              · subst h7; rfl
              · rw [if_neg h7, if_pos (by omega)]
                by_cases h8 : c ≤ 243
                · rw [decide_eq_true h8, if_neg (by omega), if_neg h3, if_neg h6]
                  simp [tremaref01_row.j2, flat, h7, show ¬ c = 244 by omega]
                · rw [decide_eq_false h8]
                  simp only [tremaref01_row.j2, Bool.false_eq_true, if_false]
                  by_cases h9 : c = 244
                  · subst h9; rfl
                  · rw [if_neg h9, if_pos (by omega)]
    · rw [if_neg h2, if_pos (by omega)]
      simp only [tremaref01_row.j0, Bool.false_eq_true, if_false]
      rw [if_neg (by omega), if_neg (by omega), if_neg (by omega)]
      simp only [tremaref01_row.j1, Bool.false_eq_true, if_false]
      rw [if_neg (by omega), if_neg (by omega)]
      simp only [tremaref01_row.j2, Bool.false_eq_true, if_false]
      rw [if_neg (by omega)]
def mt : List (Int × Int) → List Int → Nat
  | [], _ => 0
  | _ :: _, [] => 0
  | (lo, hi) :: bs, x :: t => if x < lo ∨ hi < x then 0 else mt bs t + 1
def fold (r : Int) (l : List Int) : Int := l.foldl (fun r x => r * 64 + x % 64) r
theorem mt_le : ∀ (bs : List (Int × Int)) (t : List Int), mt bs t ≤ bs.length ∧ mt bs t ≤ t.length
  | [], t => by simp [mt]
  | _ :: _, [] => by simp [mt]
  | (lo, hi) :: bs, x :: t => by
    have := mt_le bs t
    simp only [mt]
    split <;> simp <;> omega
theorem cont_mt : ∀ (bs : List (Int × Int)) (t : List Int) (r i : Int), cont bs t r i = if mt bs t = bs.length then (fold r (t.take bs.length), i + bs.length, false) else (65533, i + mt bs t, decide (mt bs t = t.length))
  | [], t, r, i => by simp [cont, mt, fold]
  | b :: bs, [], r, i => by simp [cont, mt]
  | (lo, hi) :: bs, x :: t, r, i => by
    simp only [cont, mt]
    split
    · simp
    · rw [cont_mt bs t]
      simp only [List.length_cons, Nat.add_right_cancel_iff]
      split
      · simp only [List.take_succ_cons, fold, List.foldl_cons]
        congr 2
        push_cast; omega
      · congr 2
        · push_cast; omega
theorem step_r2 (r x : Int) (h0 : 0 ≤ r) (hr : (r + 1) * 64 ≤ 2097152) (hx : 0 ≤ x ∧ x ≤ 255) : wrap32 ((wrap32 (r * 64)) + (Int.tmod (wrap32 x) 64)) = r * 64 + x % 64 := by
  have e1 : wrap32 (r * 64) = r * 64 := by unfold wrap32; omega
  have e2 : wrap32 x = x := by unfold wrap32; omega
  rw [e1, e2, Int.tmod_eq_emod_of_nonneg hx.1]
  unfold wrap32
  omega
theorem l1_step (l : List Int) (hl : l.length ≤ 140737488355328) (at_ n j k : Nat) (r : Int) (h1 : j < n) (hlt : at_ + j < l.length) (x : Int) (hxe : x = l[at_ + j]) (hx : 0 ≤ x ∧ x ≤ 255) (h0 : 0 ≤ r) (hr : (r + 1) * 64 ≤ 2097152) :
    tremaref01_At.l1 (k + 1) l at_ (n : Int) r j = tremaref01_At.l1 k l at_ (n : Int) (r * 64 + x % 64) ((j + 1 : Nat) : Int) := by
  have ea : wrap64 ((at_ : Int) + j) = ((at_ + j : Nat) : Int) := by unfold wrap64; omega
  have ew : wrap64 ((j : Int) + 1) = ((j + 1 : Nat) : Int) := by unfold wrap64; omega
  simp only [tremaref01_At.l1]
  rw [if_pos (by omega), ea, if_pos (by omega), if_pos (by omega), rd_at l _ hlt, ew, ← hxe, step_r2 r x h0 hr hx]
theorem fold_cons (r x : Int) (t : List Int) : fold r (x :: t) = fold (r * 64 + x % 64) t := rfl
theorem l1_pure (l : List Int) (hb : Bytes l) (hl : l.length ≤ 140737488355328) (at_ : Nat) (n : Nat) (hn : n ≤ 8) (han : at_ + n ≤ l.length) : ∀ (d j k : Nat) (r : Int), n - j = d → j ≤ n → d < k → 0 ≤ r → (r + 1) * (64 ^ d : Nat) ≤ 2097152 →
    tremaref01_At.l1 k l at_ (n : Int) r j = some (fold r ((l.drop (at_ + j)).take d), (n : Int), false) := by
  intro d
  induction d with
  | zero =>
    intro j k r hd hj hk _ _
    obtain ⟨k, rfl⟩ : ∃ m, k = m + 1 := ⟨k - 1, by omega⟩
    simp only [tremaref01_At.l1]
    rw [if_neg (by omega)]
    simp [fold]
  | succ d ih =>
    intro j k r hd hj hk h0 hr
    obtain ⟨k, rfl⟩ : ∃ m, k = m + 1 := ⟨k - 1, by clear hr; omega⟩
    have hlt : at_ + j < l.length := by clear hr; omega
    have hx := hb l[at_ + j] (List.getElem_mem hlt)
    have hp := step_p (x := l[at_ + j]) h0 (Nat.one_le_pow d 64 (by decide)) (by rw [Nat.pow_succ, Nat.mul_comm] at hr; exact hr)
    clear hr
    have h5 : 0 ≤ r * 64 + l[at_ + j] % 64 := by clear hp ih; omega
    rw [l1_step l hl at_ n j k r (by clear hp ih; omega) hlt _ rfl hx h0 hp.1, ih (j + 1) k _ (by clear hp ih; omega) (by clear hp ih; omega) (by clear hp ih; omega) h5 hp.2, List.drop_eq_getElem_cons hlt, List.take_succ_cons, fold_cons]
    rfl
def fin (l : List Int) (at_ : Nat) (c : Int) (bs : List (Int × Int)) (m : Nat) : Int × Int × Bool :=
  if m < bs.length then (65533, 1 + (m : Int), decide (at_ + 1 + m = l.length)) else (fold (st c) ((l.drop (at_ + 1)).take m), 1 + (m : Int), false)
theorem j1_pure (l : List Int) (hb : Bytes l) (hl : l.length ≤ 140737488355328) (at_ : Nat) (hat : at_ < l.length) (bs : List (Int × Int)) (hbs : bnd l[at_] = some bs) (m k : Nat) (hm : m ≤ bs.length) (hm2 : at_ + 1 + m ≤ l.length) (hk : m + 3 < k) :
    tremaref01_At.j1 k l at_ (flat bs) (1 + (m : Int)) = some (fin l at_ l[at_] bs m) := by
  obtain ⟨k, rfl⟩ : ∃ q, k = q + 1 := ⟨k - 1, by omega⟩
  have hc := hb l[at_] (List.getElem_mem hat)
  have hs := st_bound hc hbs
  have h3 := bnd_len hbs
  have ef : wrap64 (((flat bs).length : Int) / 2) = bs.length := by rw [flat_len]; unfold wrap64; omega
  simp only [tremaref01_At.j1]
  rw [ef]
  unfold fin
  by_cases h1 : m < bs.length
  · rw [if_pos (by omega), if_pos h1]
    have ea : wrap64 ((at_ : Int) + (1 + m)) = ((at_ + 1 + m : Nat) : Int) := by unfold wrap64; omega
    rw [ea]
    congr 3
    rw [Bool.eq_iff_iff]
    simp only [beq_iff_eq, decide_eq_true_eq]
    omega
  · obtain rfl : m = bs.length := by omega
    rw [if_neg (by omega), if_neg h1]
    have hw : wrap32 l[at_] = l[at_] := by clear hs; unfold wrap32; omega
    by_cases h0 : bs.length = 0
    · rw [if_pos (by omega), if_pos (by omega), if_pos (by omega), rd_at l at_ hat, hw, h0]
      have : st l[at_] = l[at_] := by
        unfold bnd at hbs
        unfold st
        split at hbs
        · rename_i h; rw [if_pos h]
        · split at hbs
          · cases hbs
          · split at hbs
            · cases hbs; simp at h0
            · split at hbs
              · cases hbs; simp at h0
              · cases hbs; simp at h0
      simp [fold, this]
    · rw [if_neg (by omega), if_pos (by omega), if_pos (by omega)]
      have e7 : wrap64 (7 - (1 + (bs.length : Int))) = 6 - bs.length := by clear hs; unfold wrap64; omega
      rw [e7, if_pos (by omega), rd_at l at_ hat, hw]
      have hsh : (shl .i32 1 (6 - (bs.length : Int))) ≠ 0 ∧ Int.tmod l[at_] (shl .i32 1 (6 - (bs.length : Int))) = st l[at_] := by
        unfold bnd at hbs
        unfold st
        split at hbs
        · cases hbs; simp at h0
        · rename_i g1
          rw [if_neg g1]
          split at hbs
          · cases hbs
          · split at hbs
            · rename_i g3; cases hbs
              rw [if_pos g3]
              exact ⟨by decide, by rw [show shl .i32 1 (6 - (([(128, 191)] : List (Int × Int)).length : Int)) = 32 by decide, Int.tmod_eq_emod_of_nonneg hc.1]⟩
            · rename_i g3
              rw [if_neg g3]
              split at hbs
              · rename_i g4; cases hbs
                rw [if_pos g4]
                simp only [List.length_cons, List.length_nil]
                exact ⟨by decide, by rw [show shl .i32 1 (6 - ((0 + 1 + 1 : Nat) : Int)) = 16 by decide, Int.tmod_eq_emod_of_nonneg hc.1]⟩
              · rename_i g4; cases hbs
                rw [if_neg g4]
                simp only [List.length_cons, List.length_nil]
                exact ⟨by decide, by rw [show shl .i32 1 (6 - ((0 + 1 + 1 + 1 : Nat) : Int)) = 8 by decide, Int.tmod_eq_emod_of_nonneg hc.1]⟩
      rw [if_neg hsh.1, hsh.2]
      have := l1_pure l hb hl at_ (1 + bs.length) (by clear hs; omega) (by clear hs; omega) bs.length 1 k (st l[at_]) (by clear hs; omega) (by clear hs; omega) (by clear hs; omega) hs.1 hs.2
      rw [show ((1 : Int) + (bs.length : Int)) = ((1 + bs.length : Nat) : Int) by push_cast; rfl]
      exact this
theorem ef_len {bs : List (Int × Int)} (h3 : bs.length ≤ 3) : wrap64 (((flat bs).length : Int) / 2) = bs.length := by
  rw [flat_len]; unfold wrap64; omega
theorem rd_flat {bs : List (Int × Int)} {j : Nat} (hj : j < bs.length) : rd (flat bs) ((2 * j : Nat) : Int) = bs[j].1 ∧ rd (flat bs) ((2 * j + 1 : Nat) : Int) = bs[j].2 := by
  have hg := flat_get bs j hj
  simp only [rd, Int.toNat_natCast]
  exact hg
theorem l0_stop (l : List Int) (at_ k : Nat) (bs : List (Int × Int)) (h3 : bs.length ≤ 3) : tremaref01_At.l0 (k + 1) l at_ (flat bs) (1 + (bs.length : Int)) = tremaref01_At.j1 k l at_ (flat bs) (1 + (bs.length : Int)) := by
  simp only [tremaref01_At.l0]
  rw [ef_len h3, if_neg (by omega)]
theorem l0_end (l : List Int) (hl : l.length ≤ 140737488355328) (at_ k j : Nat) (bs : List (Int × Int)) (h3 : bs.length ≤ 3) (hj : j < bs.length) (he : at_ + 1 + j = l.length) : tremaref01_At.l0 (k + 1) l at_ (flat bs) (1 + (j : Int)) = tremaref01_At.j1 k l at_ (flat bs) (1 + (j : Int)) := by
  have ea : wrap64 ((at_ : Int) + (1 + j)) = ((at_ + 1 + j : Nat) : Int) := by unfold wrap64; omega
  simp only [tremaref01_At.l0]
  rw [ef_len h3, if_pos (by omega), ea, if_neg (by omega)]
theorem l0_step (l : List Int) (hl : l.length ≤ 140737488355328) (at_ k j : Nat) (bs : List (Int × Int)) (h3 : bs.length ≤ 3) (hj : j < bs.length) (he : at_ + 1 + j < l.length) :
    tremaref01_At.l0 (k + 1) l at_ (flat bs) (1 + (j : Int)) = if l[at_ + 1 + j] < bs[j].1 ∨ bs[j].2 < l[at_ + 1 + j] then tremaref01_At.j1 k l at_ (flat bs) (1 + (j : Int)) else tremaref01_At.l0 k l at_ (flat bs) (1 + ((j + 1 : Nat) : Int)) := by
  have ea : wrap64 ((at_ : Int) + (1 + j)) = ((at_ + 1 + j : Nat) : Int) := by unfold wrap64; omega
  have e2 : wrap64 ((wrap64 (2 * (1 + (j : Int)))) - 2) = ((2 * j : Nat) : Int) := by unfold wrap64; omega
  have e3 : wrap64 ((wrap64 (2 * (1 + (j : Int)))) - 1) = ((2 * j + 1 : Nat) : Int) := by unfold wrap64; omega
  have ew : wrap64 ((1 + (j : Int)) + 1) = 1 + ((j + 1 : Nat) : Int) := by unfold wrap64; omega
  have hf := flat_len bs
  simp only [tremaref01_At.l0]
  rw [ef_len h3, if_pos (by omega), ea, e2, e3, ew, if_pos (by omega), if_pos (by omega), if_pos (by omega), if_pos (by omega), rd_at l _ he, (rd_flat hj).1, (rd_flat hj).2]
  by_cases h1 : l[at_ + 1 + j] ≥ bs[j].1
  · rw [if_pos h1, if_pos (by omega), if_pos (by omega)]
    by_cases h2 : l[at_ + 1 + j] ≤ bs[j].2
    · rw [if_pos h2, if_neg (by omega)]
    · rw [if_neg h2, if_pos (by omega)]
  · rw [if_neg h1, if_pos (by omega)]
theorem l0_pure (l : List Int) (hb : Bytes l) (hl : l.length ≤ 140737488355328) (at_ : Nat) (hat : at_ < l.length) (bs : List (Int × Int)) (hbs : bnd l[at_] = some bs) : ∀ (d j k : Nat), bs.length - j = d → j ≤ bs.length → at_ + 1 + j ≤ l.length → bs.length + d + 6 < k →
    tremaref01_At.l0 k l at_ (flat bs) (1 + (j : Int)) = some (fin l at_ l[at_] bs (j + mt (bs.drop j) (l.drop (at_ + 1 + j)))) := by
  have h3 := bnd_len hbs
  intro d
  induction d with
  | zero =>
    intro j k hd hj hj2 hk
    obtain ⟨k, rfl⟩ : ∃ q, k = q + 1 := ⟨k - 1, by omega⟩
    obtain rfl : j = bs.length := by omega
    rw [l0_stop l at_ k bs h3, j1_pure l hb hl at_ hat bs hbs bs.length k (Nat.le_refl _) hj2 (by omega), List.drop_length]
    rfl
  | succ d ih =>
    intro j k hd hj hj2 hk
    obtain ⟨k, rfl⟩ : ∃ q, k = q + 1 := ⟨k - 1, by omega⟩
    have hjl : j < bs.length := by omega
    have hj1 := j1_pure l hb hl at_ hat bs hbs j k hj hj2 (by omega)
    by_cases he : at_ + 1 + j < l.length
    · have em : mt (bs.drop j) (l.drop (at_ + 1 + j)) = if l[at_ + 1 + j] < bs[j].1 ∨ bs[j].2 < l[at_ + 1 + j] then 0 else mt (bs.drop (j + 1)) (l.drop (at_ + 1 + (j + 1))) + 1 := by
        rw [List.drop_eq_getElem_cons hjl, List.drop_eq_getElem_cons he]
        rfl
      rw [l0_step l hl at_ k j bs h3 hjl he, em]
      by_cases hc : l[at_ + 1 + j] < bs[j].1 ∨ bs[j].2 < l[at_ + 1 + j]
      · rw [if_pos hc, if_pos hc, hj1]
        rfl
      · rw [if_neg hc, if_neg hc, ih (j + 1) k (by omega) (by omega) (by omega) (by omega)]
        rw [show j + 1 + mt (bs.drop (j + 1)) (l.drop (at_ + 1 + (j + 1))) = j + (mt (bs.drop (j + 1)) (l.drop (at_ + 1 + (j + 1))) + 1) from by omega]
    · rw [l0_end l hl at_ k j bs h3 hjl (by omega), hj1, List.drop_eq_nil_of_le (i := at_ + 1 + j) (by omega), List.drop_eq_getElem_cons hjl]
      rfl
theorem at_pure (l : List Int) (hb : Bytes l) (hl : l.length ≤ 140737488355328) (at_ : Nat) (hat : at_ < l.length) : tremaref01_At.f 20 l at_ = some (one1 l[at_] (l.drop (at_ + 1))) := by
  have hc := hb l[at_] (List.getElem_mem hat)
  have hrow : tremaref01_row.f 20 l[at_] = some (match bnd l[at_] with | none => ([], false) | some bs => (flat bs, true)) :=
    at_rounds (fun k => tremaref01_row.mono l[at_] k) (by omega) (row_some l[at_] hc)
  unfold tremaref01_At.f
  rw [if_pos (by omega), if_pos (by omega), rd_at l at_ hat, hrow]
  simp only [Option.bind_some, one1]
  cases h : bnd l[at_] with
  | none => simp
  | some bs =>
    have h3 := bnd_len h
    have := l0_pure l hb hl at_ hat bs h bs.length 0 20 rfl (Nat.zero_le _) (by omega) (by omega)
    have hm := mt_le bs (l.drop (at_ + 1))
    rw [Nat.zero_add, Nat.add_zero, List.drop_zero] at this
    simp only [if_true]
    rw [show (1 : Int) = 1 + ((0 : Nat) : Int) from rfl, this, cont_mt]
    unfold fin
    by_cases h4 : mt bs (l.drop (at_ + 1)) = bs.length
    · rw [if_neg (by omega), if_pos h4, h4]; rfl
    · have hlt : mt bs (l.drop (at_ + 1)) < bs.length := by omega
      rw [if_pos hlt, if_neg h4]
      have e : decide (at_ + 1 + mt bs (l.drop (at_ + 1)) = l.length) = decide (mt bs (l.drop (at_ + 1)) = (l.drop (at_ + 1)).length) := by
        rw [Bool.eq_iff_iff]
        simp only [decide_eq_true_eq, List.length_drop]
        omega
      rw [e]
      rfl
end Go.Proofs.YtiggjbclbdikmaaDoor.Ux
namespace Go.Proofs.YtiggjbclbdikmaaDoor.Ux
set_option linter.unusedVariables false
set_option linter.unusedSimpArgs false
open Go.RowKit Go.Proofs.YtiggjbclbdikmaaDoorW.PrintWords Go.Proofs.YtiggjbclbdikmaaDoor.Hp Go.Proofs.YtiggjbclbdikmaaDoor.X
def dec : Nat → List Int → Int → List S75 × List Int × Int
  | 0, b, p => ([], b, p)
  | _ + 1, [], p => ([], [], p)
  | k + 1, c :: t, p =>
    if (one1 c t).2.2 = true then ([], c :: t, p)
    else ((⟨(one1 c t).1, p, (one1 c t).2.1⟩ : S75) :: (dec k ((c :: t).drop (one1 c t).2.1.toNat) (p + (one1 c t).2.1)).1, (dec k ((c :: t).drop (one1 c t).2.1.toNat) (p + (one1 c t).2.1)).2)
def dc (b : List Int) (p : Int) : List S75 × List Int × Int := dec b.length b p
def rest1 (b : List Int) (p : Int) : List S75 := if b = [] then [] else [⟨65533, p, b.length⟩]
def full (b : List Int) : List S75 := (dc b 0).1 ++ rest1 (dc b 0).2.1 (dc b 0).2.2
theorem drop_lt (c : Int) (t : List Int) : ((c :: t).drop (one1 c t).2.1.toNat).length ≤ t.length := by
  have := one1_width c t
  rw [List.length_drop, List.length_cons]
  omega
theorem dec_more : ∀ (k : Nat) (b : List Int) (p : Int), b.length ≤ k → dec k b p = dc b p
  | 0, [], p, _ => rfl
  | 0, c :: t, p, h => by simp at h
  | k + 1, [], p, _ => rfl
  | k + 1, c :: t, p, h => by
    have hd := drop_lt c t
    have h' : t.length ≤ k := by simpa using h
    unfold dc
    rw [List.length_cons]
    simp only [dec]
    rw [dec_more k _ _ (by omega), dec_more t.length _ _ hd]
theorem dc_nil (p : Int) : dc [] p = ([], [], p) := rfl
theorem dc_cons (c : Int) (t : List Int) (p : Int) : dc (c :: t) p = if (one1 c t).2.2 = true then ([], c :: t, p) else ((⟨(one1 c t).1, p, (one1 c t).2.1⟩ : S75) :: (dc ((c :: t).drop (one1 c t).2.1.toNat) (p + (one1 c t).2.1)).1, (dc ((c :: t).drop (one1 c t).2.1.toNat) (p + (one1 c t).2.1)).2) := by
  rw [dc, List.length_cons]
  simp only [dec]
  rw [dec_more t.length _ _ (drop_lt c t)]
theorem dc_ind {P : List Int → Int → Prop} (h0 : ∀ p, P [] p) (h1 : ∀ c t p, (one1 c t).2.2 = true → P (c :: t) p) (h2 : ∀ c t p, (one1 c t).2.2 = false → P ((c :: t).drop (one1 c t).2.1.toNat) (p + (one1 c t).2.1) → P (c :: t) p) : ∀ b p, P b p := by
  intro b
  induction hn : b.length using Nat.strongRecOn generalizing b with
  | _ n ih =>
    intro p
    cases b with
    | nil => exact h0 p
    | cons c t =>
      cases hm : (one1 c t).2.2 with
      | true => exact h1 c t p hm
      | false =>
        have hd := drop_lt c t
        exact h2 c t p hm (ih _ (by rw [← hn, List.length_cons]; omega) _ rfl _)
theorem dc_len (b : List Int) (p : Int) : (dc b p).2.2 + (dc b p).2.1.length = p + b.length ∧ (dc b p).1.length + (dc b p).2.1.length ≤ b.length ∧ (dc b p).2.1.length ≤ b.length := by
  refine dc_ind (P := fun b p => (dc b p).2.2 + (dc b p).2.1.length = p + b.length ∧ (dc b p).1.length + (dc b p).2.1.length ≤ b.length ∧ (dc b p).2.1.length ≤ b.length) ?_ ?_ ?_ b p
  · intro p; simp [dc_nil]
  · intro c t p h; rw [dc_cons, if_pos h]; simp
  · intro c t p h ih
    have hw := one1_width c t
    rw [dc_cons, if_neg (by simp [h])]
    simp only [List.length_drop, List.length_cons] at ih ⊢
    omega
theorem cont_more : ∀ (bs : List (Int × Int)) (t : List Int) (r i : Int), (cont bs t r i).2.2 = true → (cont bs t r i).1 = 65533 ∧ (cont bs t r i).2.1 = i + t.length ∧ t.length < bs.length
  | [], t, r, i, h => by simp [cont] at h
  | b :: bs, [], r, i, h => by simp [cont]
  | (lo, hi) :: bs, x :: t, r, i, h => by
    simp only [cont] at h ⊢
    split
    · rename_i hc; rw [if_pos hc] at h; simp at h
    · rename_i hc
      rw [if_neg hc] at h
      have := cont_more bs t _ _ h
      simp only [List.length_cons]
      refine ⟨this.1, by rw [this.2.1]; push_cast; omega, by omega⟩
theorem one1_more (c : Int) (t : List Int) (h : (one1 c t).2.2 = true) : (one1 c t).1 = 65533 ∧ (one1 c t).2.1 = 1 + t.length ∧ t.length < 3 := by
  unfold one1 at h ⊢
  cases hb : bnd c with
  | none => rw [hb] at h; simp at h
  | some bs =>
    rw [hb] at h
    have h1 := cont_more bs t _ _ h
    have h2 := bnd_len hb
    exact ⟨h1.1, h1.2.1, by omega⟩
theorem dc_rest (b : List Int) (p : Int) : (dc b p).2.1.length ≤ 3 ∧ (dc (dc b p).2.1 (dc b p).2.2) = ([], (dc b p).2.1, (dc b p).2.2) := by
  refine dc_ind (P := fun b p => (dc b p).2.1.length ≤ 3 ∧ (dc (dc b p).2.1 (dc b p).2.2) = ([], (dc b p).2.1, (dc b p).2.2)) ?_ ?_ ?_ b p
  · intro p; simp [dc_nil]
  · intro c t p h
    have h3 := one1_more c t h
    rw [dc_cons, if_pos h]
    simp only [List.length_cons]
    exact ⟨by omega, by rw [dc_cons, if_pos h]⟩
  · intro c t p h ih
    rw [dc_cons, if_neg (by simp [h])]
    exact ih
theorem bytes_drop {l : List Int} (h : Bytes l) (n : Nat) : Bytes (l.drop n) := fun x hx => h x (List.mem_of_mem_drop hx)
theorem ref_dec (l : List Int) (hb : Bytes l) (hl : l.length ≤ 1000000000) (op : Bool) : ∀ (d i k : Nat) (acc : List S75), l.length - i = d → i ≤ l.length → d + 30 < k → acc.length ≤ i →
    tremaref01_Decode.l0 k l op acc i = some (acc ++ (dc (l.drop i) i).1 ++ (if op = true then [] else rest1 (dc (l.drop i) i).2.1 (dc (l.drop i) i).2.2)) := by
  intro d
  induction d using Nat.strongRecOn with
  | _ d ih =>
    intro i k acc hd hi hk ha
    obtain ⟨k, rfl⟩ : ∃ q, k = q + 1 := ⟨k - 1, by omega⟩
    simp only [tremaref01_Decode.l0]
    by_cases he : i = l.length
    · rw [if_neg (by omega), List.drop_eq_nil_of_le (by omega)]
      simp [dc_nil, rest1]
    · have hlt : i < l.length := by omega
      have hat := at_rounds (fun k => tremaref01_At.mono l i k) (show 20 ≤ k by omega) (at_pure l hb (by omega) i hlt)
      have hw := one1_width l[i] (l.drop (i + 1))
      rw [if_pos (by omega), hat, List.drop_eq_getElem_cons hlt, dc_cons]
      simp only [Option.bind_some]
      have hlen : (l.drop (i + 1)).length = l.length - i - 1 := by rw [List.length_drop]; omega
      cases hm : (one1 l[i] (l.drop (i + 1))).2.2 with
      | true =>
        have h3 := one1_more _ _ hm
        simp only [if_true]
        cases op with
        | true => simp
        | false =>
          simp only [Bool.false_eq_true, if_false]
          rw [if_pos (by omega)]
          have ew : wrap64 ((i : Int) + (one1 l[i] (l.drop (i + 1))).2.1) = ((l.length : Nat) : Int) := by rw [h3.2.1]; unfold wrap64; omega
          rw [ew, ih 0 (by omega) l.length k _ (by omega) (Nat.le_refl _) (by omega) (by simp; omega), List.drop_length]
          simp only [dc_nil, rest1, if_true, List.append_nil, h3.1, h3.2.1]
          rw [if_neg (by simp), List.length_cons, show ((1 : Int) + ((l.drop (i + 1)).length : Int)) = (((l.drop (i + 1)).length + 1 : Nat) : Int) by push_cast; omega]
          simp
          exact hlt
      | false =>
        have ew : wrap64 ((i : Int) + (one1 l[i] (l.drop (i + 1))).2.1) = ((i + (one1 l[i] (l.drop (i + 1))).2.1.toNat : Nat) : Int) := by unfold wrap64; omega
        have ed : (l[i] :: l.drop (i + 1)).drop (one1 l[i] (l.drop (i + 1))).2.1.toNat = l.drop (i + (one1 l[i] (l.drop (i + 1))).2.1.toNat) := by
          rw [← List.drop_eq_getElem_cons hlt, List.drop_drop]
        have ep : ((i + (one1 l[i] (l.drop (i + 1))).2.1.toNat : Nat) : Int) = (i : Int) + (one1 l[i] (l.drop (i + 1))).2.1 := by omega
        have h5 := ih (l.length - (i + (one1 l[i] (l.drop (i + 1))).2.1.toNat)) (by omega) (i + (one1 l[i] (l.drop (i + 1))).2.1.toNat) k (acc ++ [(⟨(one1 l[i] (l.drop (i + 1))).1, i, (one1 l[i] (l.drop (i + 1))).2.1⟩ : S75)]) rfl (by omega) (by omega) (by simp; omega)
        simp only [Bool.false_eq_true, if_false, ite_self]
        rw [if_pos (by omega), ew, h5, ed, ep]
        simp
theorem Ref_dec (l : List Int) (hb : Bytes l) (hl : l.length ≤ 1000000000) (op : Bool) : tremaref01_Decode.f (l.length + 31) l op = some ((dc l 0).1 ++ (if op = true then [] else rest1 (dc l 0).2.1 (dc l 0).2.2)) := by
  have := ref_dec l hb hl op l.length 0 (l.length + 31) [] (by omega) (by omega) (by omega) (by simp)
  simpa [tremaref01_Decode.f] using this
end Go.Proofs.YtiggjbclbdikmaaDoor.Ux
namespace Go.Proofs.YtiggjbclbdikmaaDoor.Ud
set_option linter.unusedVariables false
set_option linter.unusedSimpArgs false
open Go.RowKit Go.Proofs.YtiggjbclbdikmaaDoorW.PrintWords Go.Proofs.YtiggjbclbdikmaaDoor.Hp Go.Proofs.YtiggjbclbdikmaaDoor.X Go.Proofs.YtiggjbclbdikmaaDoor.Ux
abbrev TD : Nat := 104
abbrev TP : Nat := 75
theorem info_8 : (Tryd.prog.info? 5).map (fun i => (i.zero, i.size, i.bytes)) = some (some (.int .u8 0), 1, 1) := by kernel_rfl
theorem info_P : (Tryd.prog.info? 75).map (fun i => (i.zero, i.size, i.bytes)) = some (some (.agg #[.int .i32 0, .int .i64 0, .int .i64 0]), 3, 24) := by kernel_rfl
def IsDec (g base : Nat) (kept : List Int) (at_ : Int) (closed : Bool) (ok : Nat → Prop) (w : World) : Prop :=
  ∃ kv, w.heap[g]? = some (.cells #[kv, .int .i64 at_, .bool closed] TD (0, 0)) ∧ base ≤ g ∧ ok g ∧ w.ownsRow base 5 1 kv kept.length (nums .u8 kept) ∧ ∀ b, kv.ownBlock = some b → ok b ∧ b ≠ g
section
variable {g base : Nat} {kept : List Int} {at_ : Int} {closed : Bool} {ok ok' : Nat → Prop} {w w1 : World}
theorem IsDec.mono (h : IsDec g base kept at_ closed ok w) (hok : ∀ k, ok k → ok' k) : IsDec g base kept at_ closed ok' w := by
  obtain ⟨kv, h1, h2, h3, h4, h5⟩ := h
  exact ⟨kv, h1, h2, hok _ h3, h4, fun b hb => ⟨hok _ (h5 b hb).1, (h5 b hb).2⟩⟩
theorem IsDec.bound (h : IsDec g base kept at_ closed ok w) : IsDec g base kept at_ closed (fun k => ok k ∧ k < w.heap.size) w := by
  obtain ⟨kv, h1, h2, h3, h4, h5⟩ := h
  exact ⟨kv, h1, h2, ⟨h3, blk_lt h1⟩, h4, fun b hb => ⟨⟨(h5 b hb).1, own_lt h4 b hb⟩, (h5 b hb).2⟩⟩
theorem IsDec.step (h : IsDec g base kept at_ closed ok w) (hm : ∀ k, ok k → k < w.heap.size → w1.heap[k]? = w.heap[k]?) : IsDec g base kept at_ closed ok w1 := by
  obtain ⟨kv, h1, h2, h3, h4, h5⟩ := h
  exact ⟨kv, (hm g h3 (blk_lt h1)).trans h1, h2, h3, own_move h4 (fun b hb => hm b (h5 b hb).1 (own_lt h4 b hb)), h5⟩
theorem IsDec.below (h : IsDec g base kept at_ closed ok w) (hb : Below w.heap.size w w1) : IsDec g base kept at_ closed ok w1 := h.step (fun k _ hlt => hb.block k hlt)
theorem IsDec.chg {S : Nat → Prop} (h : IsDec g base kept at_ closed ok w) (hc : Chg S w w1) (hd : ∀ k, k < w.heap.size → ok k → ¬ S k) : IsDec g base kept at_ closed ok w1 :=
  (h.bound.step (fun k hk hlt => hc.keep k hlt (hd k hk.2 hk.1))).mono (fun _ hk => hk.1)
theorem IsDec.lower {base' : Nat} (h : IsDec g base kept at_ closed ok w) (hb : base' ≤ base) : IsDec g base' kept at_ closed ok w := by
  obtain ⟨kv, h1, h2, h3, h4, h5⟩ := h
  exact ⟨kv, h1, Nat.le_trans hb h2, h3, own_weaken h4 hb, h5⟩
theorem IsDec.lt (h : IsDec g base kept at_ closed ok w) : g < w.heap.size ∧ base ≤ g ∧ ok g := by
  obtain ⟨kv, h1, h2, h3, _⟩ := h
  exact ⟨blk_lt h1, h2, h3⟩
end
def NewPost (w : World) (e : Ending) (w' : World) : Prop := ∃ g, e = .returned (.pointer (some ⟨g, 0, none⟩)) ∧ w.heap.size ≤ g ∧ IsDec g w.heap.size [] 0 false (fun b => b = g) w' ∧ Below w.heap.size w w'
set_option maxHeartbeats 1000000 in
theorem New (w : World) : Calls Tryd.prog 66 #[] w (NewPost w) := by
  have hfin : NewPost w (.returned (.pointer (some ⟨w.heap.size, 0, none⟩))) (w.alloc (.cells #[.slice none 0 0, .int .i64 0, .bool false] TD)) :=
    ⟨w.heap.size, rfl, Nat.le_refl _, ⟨.slice none 0 0, heap_alloc_new w _, Nat.le_refl _, rfl, own_nil _ _ _ _, by simp [Value.ownBlock]⟩, below_alloc (Below.refl _ _) _⟩
  go_enter Tryd.func66, Tryd.ntmps66
  go_wp2
  go_ret
  exact hfin
def ClosePost (w : World) (g base : Nat) (kept : List Int) (at_ : Int) (ok : Nat → Prop) (e : Ending) (w' : World) : Prop :=
  ∃ lv, e = .returned lv ∧ Kd.R k75 TP w' w.heap.size (fun _ => True) lv (rest1 kept at_) ∧ IsDec g base [] at_ true (fun b => b = g) w' ∧ Chg (fun b => b = g) w w'
set_option maxHeartbeats 2000000 in
theorem Close (w : World) (g base : Nat) (kept : List Int) (at_ : Int) (ok : Nat → Prop) (h : IsDec g base kept at_ false ok w) :
    Calls Tryd.prog 72 #[.pointer (some ⟨g, 0, none⟩)] w (ClosePost w g base kept at_ ok) := by
  obtain ⟨kv, h1, h2, h3, h4, h5⟩ := h
  have c0 : w.cell? ⟨g, 0, none⟩ = some kv := by simp [World.cell?, h1]
  have c1 : w.cell? ⟨g, 1, none⟩ = some (.int .i64 at_) := by simp [World.cell?, h1]
  have c2 : w.cell? ⟨g, 2, none⟩ = some (.bool false) := by simp [World.cell?, h1]
  have f0 : w.frozen? ⟨g, 0, none⟩ = false := by simp [World.frozen?, h1]
  have f2 : w.frozen? ⟨g, 2, none⟩ = false := by simp [World.frozen?, h1]
  obtain ⟨A, c, rfl, hr⟩ := own_reads h4
  have hm := hr.2.1
  have hl := blk_lt h1
  obtain ⟨W, hW⟩ : ∃ W, W = (w.setCell ⟨g, 2, none⟩ (.bool true)).setCell ⟨g, 0, none⟩ (.slice none 0 0) := ⟨_, rfl⟩
  have hWg : W.heap[g]? = some (.cells #[.slice none 0 0, .int .i64 at_, .bool true] TD (0, 0)) := by
    have := blk_set (blk_set h1 2 (.bool true)) 0 (.slice none 0 0)
    rw [hW]; simpa using this
  have hch : Chg (fun b => b = g) w W := by rw [hW]; exact ((Chg.refl (fun b => b = g) w).setCell (p := ⟨g, 2, none⟩) (.inl rfl) _).setCell (p := ⟨g, 0, none⟩) (.inl rfl) _
  have hdec : IsDec g base [] at_ true (fun b => b = g) W := ⟨_, hWg, h2, rfl, own_nil _ _ _ _, by simp [Value.ownBlock]⟩
  have hsz : W.heap.size = w.heap.size := by rw [hW]; simp [World.setCell]
  by_cases h0 : kept.length = 0
  · have hk : kept = [] := List.eq_nil_of_length_eq_zero h0
    have hfin : ClosePost w g base kept at_ ok (.returned (.slice none 0 0)) W := ⟨_, rfl, by rw [hk]; exact Kd.R_nil _ _ _ _ _, hdec, hch⟩
    rw [hW] at hfin
    subst hk
    clear h1 h2 h3 h4 h5 hr hW hWg hch hdec hsz h0
    go_enter Tryd.func72, Tryd.ntmps72
    go_wp2
    go_ret
    exact hfin
  · have hb : ((kept.length : Int) == 0) = false := by simpa using h0
    have hfin : ClosePost w g base kept at_ ok (.returned (.slice (some ⟨w.heap.size, 0, none⟩) 1 1)) (W.alloc (.cells #[.int .i32 65533, .int .i64 at_, .int .i64 kept.length] TP)) := by
      refine ⟨_, rfl, ?_, hdec.below (below_alloc (Below.refl _ _) _), hch.alloc _⟩
      have e : rest1 kept at_ = [(⟨65533, at_, kept.length⟩ : S75)] := by unfold rest1; rw [if_neg (fun hk => h0 (by rw [hk]; rfl))]
      rw [e]
      refine ⟨fun _ _ => trivial, [.int .i32 65533, .int .i64 at_, .int .i64 kept.length], ⟨rfl, .inr ⟨w.heap.size, 1, #[.int .i32 65533, .int .i64 at_, .int .i64 kept.length], rfl, Nat.le_refl _, ?_, Nat.le_refl _, by simp [maxLen], rfl, rfl⟩⟩, ?_⟩
      · rw [← hsz]; exact heap_alloc_new W _
      · refine ⟨rfl, fun j p hj => ?_⟩
        match j, hj with
        | 0, hj => cases hj; exact k75_mkM _ _ _ _
        | j + 1, hj => simp at hj
    rw [hW] at hfin
    clear h1 h2 h3 h4 h5 hr hW hWg hch hdec hsz h0
    go_enter Tryd.func72, Tryd.ntmps72
    go_wp2
    go_ret
    exact hfin
end Go.Proofs.YtiggjbclbdikmaaDoor.Ud
namespace Go.Proofs.YtiggjbclbdikmaaDoor.Ud
set_option linter.unusedVariables false
set_option linter.unusedSimpArgs false
open Go.RowKit Go.Proofs.YtiggjbclbdikmaaDoorW.PrintWords Go.Proofs.YtiggjbclbdikmaaDoor.Hp Go.Proofs.YtiggjbclbdikmaaDoor.X Go.Proofs.YtiggjbclbdikmaaDoor.Ux
def sliceLen : Value → Nat
  | .slice _ n _ => n
  | _ => 0
def WritePost (w : World) (g base : Nat) (all : List Int) (at_ : Int) (ok : Nat → Prop) (e : Ending) (w' : World) : Prop :=
  ∃ lv M, e = .returned lv ∧ w.heap.size ≤ M ∧ Kd.R k75 TP w' w.heap.size (fun b => b < M) lv (dc all at_).1 ∧ IsDec g base (dc all at_).2.1 (dc all at_).2.2 false (fun b => b = g ∨ M ≤ b) w' ∧ Chg ok w w'
def Inv (W1 : World) (g : Nat) (kv : Value) (all : List Int) (at0 : Int) (av lv : Value) (rest : List Int) (wr : World) : Prop :=
  ∃ (pts : List S75) (at_ : Int) (A : Option Addr) (c : Nat), av = .slice A rest.length c ∧ rest.length ≤ c ∧ Kd.C (Kd.int .u8) wr A rest.length rest ∧ (∀ ad, A = some ad → ad.block < W1.heap.size ∧ ad.block ≠ g) ∧
    Kd.R k75 TP wr W1.heap.size (fun _ => True) lv pts ∧ wr.heap[g]? = some (.cells #[kv, .int .i64 at_, .bool false] TD (0, 0)) ∧
    dc all at0 = (pts ++ (dc rest at_).1, (dc rest at_).2) ∧ Chg (fun b => b = g) W1 wr ∧ at_ + rest.length = at0 + all.length ∧ pts.length + rest.length ≤ all.length
theorem Inv.chg {W1 : World} {g : Nat} {kv : Value} {all : List Int} {at0 : Int} {av lv : Value} {rest : List Int} {wr : World} (h : Inv W1 g kv all at0 av lv rest wr) : Chg (fun b => b = g) W1 wr := by
  obtain ⟨_, _, _, _, _, _, _, _, _, _, _, h, _⟩ := h; exact h
theorem Inv.fin {w W1 wr wq : World} {g base : Nat} {ok : Nat → Prop} {kv av lv : Value} {all rest : List Int} {at0 : Int} (h : Inv W1 g kv all at0 av lv rest wr) (hstop : ∀ p, dc rest p = ([], rest, p)) (hq : Drawn0 wr wq)
    (hW : Chg ok w W1) (hbase : base ≤ g) (hok : ok g) (hbw : base ≤ w.heap.size) (hgw : g < w.heap.size) : ∀ (v1 : Value) (w1 : World), w1.ownsRow wq.heap.size 5 1 v1 rest.length (nums .u8 rest) → Below wq.heap.size wq w1 → WritePost w g base all at0 ok (.returned lv) (w1.setCell ⟨g, 0, none⟩ v1) := by
  intro v1 w1 hown hb
  obtain ⟨pts, at_, A, c, rfl, hc, hC, hA, hR, hg, hd, hch, _, _⟩ := h
  have hs1 := hq.below.size
  have hs2 := hch.size
  have hs3 := hW.size
  have hs4 := hb.size
  have e : dc all at0 = (pts, rest, at_) := by rw [hd, hstop]; simp
  have hbq := hq.below
  have hRq : Kd.R k75 TP w1 W1.heap.size (fun b => b < wq.heap.size) lv pts := by
    have h1 := Kd.R_below hR hbq
    exact Kd.R_below (Kd.R_mono (Kd.R_bound h1) (fun b hb => hb.2.2.1)) hb
  have hgq : wq.heap[g]? = some (.cells #[kv, .int .i64 at_, .bool false] TD (0, 0)) := (hbq.block g (by omega)).trans hg
  have hg1 : w1.heap[g]? = some (.cells #[kv, .int .i64 at_, .bool false] TD (0, 0)) := (hb.block g (by omega)).trans hgq
  have hRg : Kd.R k75 TP w1 W1.heap.size (fun b => b < wq.heap.size ∧ b ≠ g) lv pts := Kd.R_mono (Kd.R_bound hRq) (fun b hb => ⟨hb.1, by have := hb.2.1; omega⟩)
  refine ⟨lv, wq.heap.size, rfl, by omega, ?_, ?_, ?_⟩
  · rw [e]
    exact Kd.R_lower (Kd.R_mono (Kd.R_far (p := ⟨g, 0, none⟩) hRg (fun b hb => hb.2) v1) (fun b hb => hb.1)) hs3
  · rw [e]
    refine ⟨v1, ?_, hbase, .inl rfl, ?_, ?_⟩
    · have := blk_set hg1 0 v1
      simpa using this
    · exact own_setCell (own_weaken hown (by omega)) (fun he => by have := own_base hown g he.symm; omega) v1
    · intro b hb2
      have := own_base hown b hb2
      exact ⟨.inr this, by omega⟩
  · exact ((((hW.trans hch (fun i hi hs => by subst hs; exact hok)).then_below hbq).then_below hb)).setCell (p := ⟨g, 0, none⟩) (.inl hok) v1
theorem chg_below {S : Nat → Prop} {w w1 w2 : World} (h : Chg S w w1) (k : Below w.heap.size w1 w2) : Chg S w w2 :=
  ⟨k.os.trans h.os, k.tape.trans h.tape, k.output.trans h.output, Nat.le_trans h.size k.size, fun i hi hn => (k.block i hi).trans (h.keep i hi hn)⟩
theorem Inv.next {W1 wr wq w2 : World} {g : Nat} {kv lv2 : Value} {all : List Int} {at0 : Int} {pts : List S75} {at_ : Int} {A : Option Addr} {c : Nat} {rest : List Int} {x : Int} {t : List Int} {r : Int} {m : Nat} (hx : rest = x :: t) (ho : one1 x t = (r, (m : Int), false))
    (hc : rest.length ≤ c) (hC : Kd.C (Kd.int .u8) wr A rest.length rest) (hA : ∀ ad, A = some ad → ad.block < W1.heap.size ∧ ad.block ≠ g) (hg : wr.heap[g]? = some (.cells #[kv, .int .i64 at_, .bool false] TD (0, 0)))
    (hd : dc all at0 = (pts ++ (dc rest at_).1, (dc rest at_).2)) (hch : Chg (fun b => b = g) W1 wr) (hs : at_ + rest.length = at0 + all.length) (hp : pts.length + rest.length ≤ all.length) (hgl : g < W1.heap.size)
    (hq : Drawn0 wr wq) (hR : Kd.R k75 TP w2 W1.heap.size (fun _ => True) lv2 (pts ++ [(⟨r, at_, m⟩ : S75)])) (hb : Below W1.heap.size wq w2) (A2 : Option Addr) (hA2 : A2 = if c = m then A else A.map (·.add (m * 1))) :
    Inv W1 g kv all at0 (.slice A2 (rest.length - m) (c - m)) lv2 (rest.drop m) (w2.setCell ⟨g, 1, none⟩ (.int .i64 (at_ + m))) := by
  have hw := one1_width x t
  rw [ho] at hw
  simp only at hw
  have hl : rest.length = t.length + 1 := by rw [hx]; rfl
  have hm : m ≤ rest.length := by omega
  have hs1 := hq.below.size
  have hs2 := hch.size
  have hgq : wq.heap[g]? = some (.cells #[kv, .int .i64 at_, .bool false] TD (0, 0)) := (hq.below.block g (by omega)).trans hg
  have hg2 := (hb.block g hgl).trans hgq
  have hread := ((rdint hC).below hq.below).drop_ m hm hc
  refine ⟨pts ++ [(⟨r, at_, m⟩ : S75)], at_ + m, A2, c - m, by rw [List.length_drop], by rw [List.length_drop]; omega, ?_, ?_, ?_, ?_, ?_, ?_, ?_, ?_⟩
  · rw [List.length_drop]
    have h1 : ReadsInt wq .u8 A2 (rest.length - m) (rest.drop m) := by
      rw [hA2]
      simpa using hread
    refine rdC ⟨h1.1, h1.2.1, fun hp => ?_⟩
    obtain ⟨ad, he, hcell⟩ := h1.2.2 hp
    refine ⟨ad, he, fun j hj => ?_⟩
    have hbk : ad.block < W1.heap.size ∧ ad.block ≠ g := by
      rw [hA2] at he
      split at he
      · exact hA ad he
      · cases A with
        | none => simp at he
        | some a0 =>
          simp only [Option.map_some, Option.some.injEq] at he
          have := hA a0 rfl
          rw [← he]
          unfold Addr.add
          split <;> exact this
    have hab : (ad.add j).block = ad.block := by unfold Addr.add; split <;> rfl
    have h2 : (w2.setCell ⟨g, 1, none⟩ (.int .i64 (at_ + m))).heap[(ad.add j).block]? = wq.heap[(ad.add j).block]? := by
      rw [hab]
      exact (Below.heap_setCell _ _ _ _ hbk.2).trans (hb.block _ hbk.1)
    rw [← hcell j hj]
    exact World.cell?_of_block h2
  · intro ad he
    rw [hA2] at he
    split at he
    · exact hA ad he
    · cases A with
      | none => simp at he
      | some a0 =>
        simp only [Option.map_some, Option.some.injEq] at he
        have := hA a0 rfl
        rw [← he]
        unfold Addr.add
        split <;> exact this
  · exact Kd.R_mono (Kd.R_far (p := ⟨g, 1, none⟩) (Kd.R_mono (ok' := fun b => b ≠ g) (Kd.R_bound hR) (fun b hb => by have := hb.2.1; omega)) (fun b hb => hb) _) (fun _ _ => trivial)
  · have := blk_set hg2 1 (.int .i64 (at_ + m))
    simpa using this
  · rw [hd, hx, dc_cons, ho]
    simp
  · exact (chg_below (hch.then_drawn hq) hb).setCell (p := ⟨g, 1, none⟩) (.inl rfl) _
  · rw [List.length_drop]; omega
  · rw [List.length_drop, List.length_append, List.length_singleton]; omega
set_option maxRecDepth 100000 in
set_option maxHeartbeats 4000000 in
theorem Write (w : World) (g base : Nat) (kept : List Int) (at0 : Int) (ok : Nat → Prop) (A : Option Addr) (n c : Nat) (bs : List Int) (h : IsDec g base kept at0 false ok w) (hb : ReadsInt w .u8 A n bs) 
    (hB : Bytes (kept ++ bs)) (hlen : kept.length + n ≤ 1000000000) (hat : 0 ≤ at0 ∧ at0 ≤ 4000000000000000) :
    Calls Tryd.prog 70 #[.pointer (some ⟨g, 0, none⟩), .slice A n c] w (WritePost w g base (kept ++ bs) at0 ok) := by
  obtain ⟨kv, h1, h2, h3, h4, h5⟩ := h
  have c0 : w.cell? ⟨g, 0, none⟩ = some kv := by simp [World.cell?, h1]
  have c2 : w.cell? ⟨g, 2, none⟩ = some (.bool false) := by simp [World.cell?, h1]
  have hl := blk_lt h1
  have hbn := hb.1
  have H1 := Aside0.mk h1
  have H4 := Aside0.mk h4
  have H5 := Aside0.mk h5
  have HBY := Aside0.mk hB
  have HRB := Aside0.mk hb
  have HBN := Aside0.mk hbn
  obtain ⟨hat0, hat1⟩ := hat
  clear h1 h4 h5 hB hb hbn
  go_enter Tryd.func70, Tryd.ntmps70
  go_wp2_with (at_builtin; go_must (refine print_append_row (w0 := w) base rfl (.tmp 21) (.tmp 22) 27 5 .u8 1 rfl Tryd.underlying27 info_8 (by decide) kv kept bs A n c rfl rfl H4.out HRB.out (Below.refl _ _) (by omega) (by omega) ?hh))
  case hh =>
    intro v1 W1 hown0 hb1 hg1 hat1
    obtain ⟨L, hL⟩ : ∃ L, L = (kept ++ bs).length := ⟨_, rfl⟩
    have hown : W1.ownsRow base 5 1 v1 L (nums .u8 (kept ++ bs)) := by rw [hL, List.length_append]; exact hown0
    clear hown0
    obtain ⟨A1, c1, rfl, hr1⟩ := own_reads hown
    have hn1 : (A1 = none → False) ∨ True := .inr trivial
    have hW : Chg ok w W1 := (Chg.refl ok w).grown hg1 (fun b hb => .inl (H5.out b hb).1)
    have hgW : W1.heap[g]? = some (.cells #[kv, .int .i64 at0, .bool false] TD (0, 0)) := (hg1.block g hl (fun he => (H5.out g he.symm).2 rfl)).trans H1.out
    have hcap : L ≤ c1 := by
      rcases hown.2 with ⟨he, hn⟩ | ⟨go, cap, cur, he, _, _, h7, _⟩
      · injection he; omega
      · injection he; omega
    have hA1 : ∀ ad, A1 = some ad → ad.block < W1.heap.size ∧ ad.block ≠ g := by
      intro ad he
      have hob : (Value.slice A1 L c1).ownBlock = some ad.block := by rw [he]; rfl
      refine ⟨own_lt hown _ hob, fun hbg => ?_⟩
      rcases hat1 with h7 | ⟨b, h7, h8⟩
      · rw [hob] at h7; exact (H5.out _ h7.symm).2 hbg
      · rw [hob] at h7; injection h7 with h7; omega
    have hsl : base ≤ w.heap.size := by omega
    have hall : (kept ++ bs).length ≤ 1000000000 := by rw [List.length_append, HBN.out]; exact hlen
    have hinv : Inv W1 g kv (kept ++ bs) at0 (.slice A1 (kept ++ bs).length c1) (.slice none 0 0) (kept ++ bs) W1 :=
      ⟨[], at0, A1, c1, rfl, by rw [← hL]; exact hcap, by rw [← hL]; exact rdC hr1, hA1, Kd.R_nil _ _ _ _ _, hgW, by simp, Chg.refl _ _, rfl, by simp⟩
    have hgl : g < W1.heap.size := blk_lt hgW
    have HINV := Aside0.mk hinv
    have HWW := Aside0.mk hW
    have HBY2 := Aside0.mk (show Bytes (kept ++ bs) from HBY.out)
    obtain ⟨all, hall2⟩ : ∃ all, all = kept ++ bs := ⟨_, rfl⟩
    rw [← hall2] at HINV HBY2 hall
    have HALL := Aside0.mk hall2
    have hrb : ∀ rest : List Int, (∃ k, rest = all.drop k) → Bytes rest := fun rest ⟨k, he⟩ => by rw [he]; exact bytes_drop HBY2.out k
    have hll : L = all.length := by rw [hall2, hL]
    have HLL := Aside0.mk hll
    clear hinv hW hcap hA1 hr1 hown hb1 hg1 hat1 hgW hall2 hn1 hll hL
    have HBR := Aside0.mk hrb
    clear hrb
    go_wp2_with fail
    go_loopw [5, 6] (fun av lv wr => ∃ (rest : List Int), Aside0 (Inv W1 g kv all at0 av lv rest wr) ∧ Aside0 (∃ k, rest = all.drop k)) (fun av _ _ => sliceLen av)
    case atStart => exact ⟨all, by rw [HLL.out]; exact HINV, ⟨0, by simp⟩⟩
    case round =>
      obtain ⟨rest, HI, HK⟩ := hrel
      have HBRE := Aside0.mk (HBR.out rest HK.out)
      obtain ⟨pts, at_, A, c, rfl, hc, hC, hA, hR, hg, hd, hch, hs, hp⟩ := HI.out
      have hfinI := HI.out
      have hm := Kd.C_max hC
      have hs1 := hch.size
      cases hrest : rest with
      | nil =>
        rw [hrest] at hfinI hC
        obtain ⟨wq, hwq⟩ : ∃ wq, wq = wr := ⟨_, rfl⟩
        have HC := Aside0.mk (show Kd.C (Kd.int .u8) wr A ([] : List Int).length [] from hC)
        have HG := Aside0.mk (And.intro hg (show g < wr.heap.size by omega))
        have HEND := Aside0.mk (Inv.fin hfinI (fun p => rfl) (Drawn0.refl wr) HWW.out h2 h3 (by omega) hl)
        clear hfinI hC hg hd hch hs hp hA hR hrest hc HI hwq
        go_wp2_with (at_builtin; go_must (refine print_append_row (w0 := wr) (wr).heap.size rfl (.const (.slice none 0 0)) (.tmp 56) 27 5 .u8 1 rfl Tryd.underlying27 info_8 (by decide) (.slice none 0 0) [] ([] : List Int) A (([] : List Int)).length c rfl rfl (own_nil _ _ _ _) (rdint HC.out) (Below.refl _ _) (Nat.le_refl _) (by first | (simp; done) | (simp; omega)) ?hh))
        case hh =>
          intro v1 w1 hown hb1 hg1 hat1
          have hc1 : w1.cell? ⟨g, 0, none⟩ = some kv := by
            have : w1.heap[g]? = (wr).heap[g]? := hb1.block g HG.out.2
            simp [World.cell?, this, HG.out.1]
          have hf1 : w1.frozen? ⟨g, 0, none⟩ = false := by
            have : w1.heap[g]? = (wr).heap[g]? := hb1.block g HG.out.2
            simp [World.frozen?, this, HG.out.1]
          have hfin : WritePost w g base all at0 ok (.returned u6) (w1.setCell ⟨g, 0, none⟩ v1) := HEND.out v1 w1 (by simpa using hown) hb1
          rw [HALL.out] at hfin
          have HFIN := Aside0.mk hfin
          obtain ⟨A1, c1, rfl⟩ := own_slice hown
          clear hfin hown hb1 hg1 hat1
          go_wp2
          go_ret
          exact HFIN.out
      | cons x t =>
        have hlr : rest.length ≤ all.length := by omega
        have hpos : 0 < rest.length := by rw [hrest]; simp
        have hdp : decide (0 < rest.length) = true := by simpa using hpos
        have hbr := HBRE.out
        have hone : utf_one.f 8 rest = some (one1 x t) := by rw [hrest] at hbr ⊢; exact one_pure x t hbr (by rw [← hrest]; omega)
        obtain ⟨r, nn, more, he⟩ : ∃ r nn more, one1 x t = (r, nn, more) := ⟨_, _, _, rfl⟩
        rw [he] at hone
        have hcall := utf_one.calls 8 A c rest r nn more wr hC hc hone
        have HCALL := Aside0.mk hcall
        have hw := one1_width x t
        rw [he] at hw
        obtain ⟨hw1, hw2, hw3⟩ := hw
        simp only at hw1 hw2 hw3
        have hge : g < wr.heap.size := by omega
        rw [← hrest]
        cases more with
        | true =>
          have hstop : ∀ p, dc rest p = ([], rest, p) := fun p => by rw [hrest, dc_cons, he]; rfl
          have HST := Aside0.mk hstop
          have HFI := Aside0.mk hfinI
          have HCC := Aside0.mk hC
          have HGG := Aside0.mk hg
          clear hfinI hC hg hd hch hs hp hA hR hrest HI hone hcall hbr hstop he
          go_wp2_with (first | (go_at_call 88; have t0 := HCALL.out; refine t0.mono ?_; rintro e wq ⟨rfl, hq⟩; have HQ := Aside0.mk hq; have HC := Aside0.mk (Kd.C_below HCC.out HQ.out.below); have HG := Aside0.mk (And.intro (HQ.out.below.block g hge |>.trans HGG.out) (Nat.lt_of_lt_of_le hge HQ.out.below.size)); have HEND := Aside0.mk (Inv.fin HFI.out HST.out HQ.out HWW.out h2 h3 (by omega) hl); clear hq t0 HCALL) | (at_builtin; go_must (refine print_append_row (w0 := wq) wq.heap.size rfl (.const (.slice none 0 0)) (.tmp 56) 27 5 .u8 1 rfl Tryd.underlying27 info_8 (by decide) (.slice none 0 0) [] rest A rest.length c rfl rfl (own_nil _ _ _ _) (rdint HC.out) (Below.refl _ _) (Nat.le_refl _) (by simp; omega) ?hh)))
          case hh =>
            intro v1 w1 hown hb1 hg1 hat1
            have hc1 : w1.cell? ⟨g, 0, none⟩ = some kv := by
              have : w1.heap[g]? = (wq).heap[g]? := hb1.block g HG.out.2
              simp [World.cell?, this, HG.out.1]
            have hf1 : w1.frozen? ⟨g, 0, none⟩ = false := by
              have : w1.heap[g]? = (wq).heap[g]? := hb1.block g HG.out.2
              simp [World.frozen?, this, HG.out.1]
            have hfin : WritePost w g base all at0 ok (.returned u6) (w1.setCell ⟨g, 0, none⟩ v1) := HEND.out v1 w1 (by simpa using hown) hb1
            rw [HALL.out] at hfin
            have HFIN := Aside0.mk hfin
            obtain ⟨A1, c1, rfl⟩ := own_slice hown
            clear hfin hown hb1 hg1 hat1
            go_wp2
            go_ret
            exact HFIN.out
        | false =>
          obtain ⟨m, rfl⟩ : ∃ m : Nat, nn = m := ⟨nn.toNat, by omega⟩
          obtain ⟨i8, hi8, hz8⟩ := Option.map_eq_some_iff.1 info_8
          simp only [Prod.mk.injEq] at hz8
          obtain ⟨A2, hA2⟩ : ∃ A2, A2 = (if c = m then A else A.map (·.add (m * 1))) := ⟨_, rfl⟩
          have hlt1 : rest.length = t.length + 1 := by rw [hrest]; rfl
          have hcut : ∀ W : World, (Instr.slice 27 (.slice A rest.length c) (some (.int .i64 (m : Int))) none none).run Tryd.prog W = .ok (.slice A2 (rest.length - m) (c - m)) W := by
            intro W
            have := cut_from (P := Tryd.prog) 27 5 .i64 Tryd.underlying27 hi8 1 hz8.2.1 A rest.length c (m : Int) (by omega) (by omega) W
            rw [hA2]
            simpa using this
          have hat_0 : 0 ≤ at_ := by omega
          have hat_1 : at_ ≤ 5000000000000000 := by omega
          obtain ⟨k0, hk0⟩ := HK.out
          have HDR := Aside0.mk (show ∃ k, rest.drop m = all.drop k from ⟨k0 + m, by rw [hk0, List.drop_drop]⟩)
          have HNX := Aside0.mk (fun (wq w2 : World) (lv2 : Value) (hq : Drawn0 wr wq) (hR2 : Kd.R k75 TP w2 W1.heap.size (fun _ => True) lv2 (pts ++ [(⟨r, at_, m⟩ : S75)])) (hb2 : Below W1.heap.size wq w2) =>
            Inv.next hrest he hc hC hA hg hd hch hs hp hgl hq hR2 hb2 A2 hA2)
          have HRR := Aside0.mk hR
          have HGG := Aside0.mk hg
          have hpl : pts.length ≤ 1000000000 := by omega
          have hmr : m ≤ rest.length := by omega
          clear hlt1 hfinI hC hg hd hch hs hp hA hR hrest HI hone hcall hbr he hi8 hz8 hA2 hk0 hm
          go_wp2_with (first | (go_at_call 88; go_must (have t0 := HCALL.out; refine t0.mono ?_; rintro e wq ⟨rfl, hq⟩; have HQ := Aside0.mk hq; have hgq := HQ.out.below.block g hge |>.trans HGG.out; have hc1 : wq.cell? ⟨g, 1, none⟩ = some (.int .i64 at_) := (by simp [World.cell?, hgq]); have HG := Aside0.mk hgq; have HS := Aside0.mk (HQ.out.below.size); clear hq t0 HCALL hgq)) | (at_builtin; go_must (refine Kd.R_append k75 (w0 := wq) W1.heap.size rfl (.tmp 34) (.tmp 42) 72 TP (.agg #[.int .i32 0, .int .i64 0, .int .i64 0]) 24 rfl Tryd.underlying72 info_P rfl (by decide) (by decide) u6 pts (⟨r, at_, m⟩ : S75) [.int .i32 r, .int .i64 at_, .int .i64 m] (fun _ => True) (fun _ => False) rfl rfl (k75_mkM _ _ _ _) (fun _ h => h.elim) (fun _ _ => trivial) (Kd.R_below HRR.out HQ.out.below) (Below.refl _ _) (Nat.le_trans hs1 HS.out) (by omega) ?hh)))
          case hh =>
            intro v1 w2 hR2 hb2 hg2 hat2
            have hgw := (hb2.block g hgl).trans HG.out
            have hd1 : w2.cell? ⟨g, 1, none⟩ = some (.int .i64 at_) := by simp [World.cell?, hgw]
            have hf1 : w2.frozen? ⟨g, 1, none⟩ = false := by simp [World.frozen?, hgw]
            have HI2 := Aside0.mk (HNX.out wq w2 v1 HQ.out hR2 hb2)
            clear hR2 hb2 hg2 hat2 hgw HNX
            go_wp2
            go_roundw
            case rel => exact ⟨rest.drop m, HI2, HDR⟩
            case measure => simp [sliceLen]; omega
end Go.Proofs.YtiggjbclbdikmaaDoor.Ud
namespace Go.Proofs.YtiggjbclbdikmaaDoor.Dc
set_option linter.unusedVariables false
set_option linter.unusedSimpArgs false
open Go.RowKit Go.Proofs.YtiggjbclbdikmaaDoorW.PrintWords Go.Proofs.YtiggjbclbdikmaaDoor.Hp Go.Proofs.YtiggjbclbdikmaaDoor.Fm Go.Proofs.YtiggjbclbdikmaaDoor.X Go.Proofs.YtiggjbclbdikmaaDoor.Ux Go.Proofs.YtiggjbclbdikmaaDoor.Ud
def decT (g base : Nat) (kept : List Int) (at_ : Int) (closed : Bool) : Th :=
  ⟨fun ok w => IsDec g base kept at_ closed ok w, fun h hm => h.step hm, fun h => h.bound⟩
section
variable {w0 w w' : World} {L : List Th}
theorem NewS (h : Sep w0 L w) : Calls Tryd.prog 66 #[] w fun e w' => ∃ g, e = .returned (.pointer (some ⟨g, 0, none⟩)) ∧ Sep w0 (L ++ [decT g w0.heap.size [] 0 false]) w' := by
  refine (New w).mono ?_
  rintro e w' ⟨g, rfl, hg, hd, hb⟩
  exact ⟨g, rfl, h.new (decT g w0.heap.size [] 0 false) (ok := fun b => b = g) (hd.lower h.below.size) (fun b hb => by rw [hb]; exact hg) hb⟩
theorem WriteS (h : Sep w0 L w) (i : Nat) {g : Nat} {kept : List Int} {at0 : Int} (hi : L[i]? = some (decT g w0.heap.size kept at0 false)) (A : Option Addr) (n c : Nat) (bs : List Int) (hb : ReadsInt w .u8 A n bs)
    (hB : Bytes (kept ++ bs)) (hlen : kept.length + n ≤ 1000000000) (hat : 0 ≤ at0 ∧ at0 ≤ 4000000000000000) :
    Calls Tryd.prog 70 #[.pointer (some ⟨g, 0, none⟩), .slice A n c] w fun e w' => ∃ A' c', e = .returned (.slice A' (dc (kept ++ bs) at0).1.length c') ∧
      Sep w0 (L.set i (decT g w0.heap.size (dc (kept ++ bs) at0).2.1 (dc (kept ++ bs) at0).2.2 false) ++ [rowT k75 TP w0.heap.size (.slice A' (dc (kept ++ bs) at0).1.length c') (dc (kept ++ bs) at0).1]) w' := by
  have hs := h.below.size
  obtain ⟨ok, h1, h2, h3⟩ := h.op2 i _ hi
  have h1' : IsDec g w0.heap.size kept at0 false ok w := h1
  refine (Write w g w0.heap.size kept at0 ok A n c bs h1' hb hB hlen hat).mono ?_
  rintro e w' ⟨lv, M, rfl, q1, q2, q3, q4⟩
  obtain ⟨A', c', rfl⟩ := Kd.R_slice q2
  refine ⟨A', c', rfl, h3 w' (decT _ _ _ _ _) (rowT _ _ _ _ _) (fun b => b = g ∨ M ≤ b) (fun b => b < M ∧ w.heap.size ≤ b) q3 (Kd.R_lower (Kd.R_mono (Kd.R_bound q2) (fun k hk => ⟨hk.1, hk.2.1⟩)) hs) ?_ (fun b hb => hb.2) ?_ q4⟩
  · intro b hb2
    rcases hb2 with rfl | hb2
    · exact .inl h1'.lt.2.2
    · exact .inr (Nat.le_trans q1 hb2)
  · intro b hb2 hb3
    have hgl := h1'.lt.1
    rcases hb2 with rfl | hb2 <;> omega
theorem CloseS (h : Sep w0 L w) (i : Nat) {g : Nat} {kept : List Int} {at0 : Int} (hi : L[i]? = some (decT g w0.heap.size kept at0 false)) :
    Calls Tryd.prog 72 #[.pointer (some ⟨g, 0, none⟩)] w fun e w' => ∃ A' c', e = .returned (.slice A' (rest1 kept at0).length c') ∧
      Sep w0 (L.set i (decT g w0.heap.size [] at0 true) ++ [rowT k75 TP w0.heap.size (.slice A' (rest1 kept at0).length c') (rest1 kept at0)]) w' := by
  have hs := h.below.size
  obtain ⟨ok, h1, h2, h3⟩ := h.op2 i _ hi
  have h1' : IsDec g w0.heap.size kept at0 false ok w := h1
  refine (Close w g w0.heap.size kept at0 ok h1').mono ?_
  rintro e w' ⟨lv, rfl, q1, q2, q3⟩
  obtain ⟨A', c', rfl⟩ := Kd.R_slice q1
  refine ⟨A', c', rfl, h3 w' (decT _ _ _ _ _) (rowT _ _ _ _ _) (fun b => b = g) (fun b => w.heap.size ≤ b) q2 (Kd.R_lower (Kd.R_mono (Kd.R_bound q1) (fun k hk => hk.2.1)) hs) ?_ (fun b hb => hb) ?_ (q3.mono (fun k _ hk => by rw [hk]; exact h1'.lt.2.2))⟩
  · intro b hb2
    rw [hb2]
    exact .inl h1'.lt.2.2
  · intro b hb2 hb3
    have hgl := h1'.lt.1
    omega
end
end Go.Proofs.YtiggjbclbdikmaaDoor.Dc
namespace Go.Proofs.YtiggjbclbdikmaaDoor.X
open Go.RowKit Go.Proofs.YtiggjbclbdikmaaDoorW.PrintWords Go.Proofs.YtiggjbclbdikmaaDoorW.PrintLast Go.Proofs.YtiggjbclbdikmaaDoorW.PrintMore
attribute [local go_sem] max2_int min2_int max_two min_two max_three min_three max_four min_four   
set_option linter.unusedVariables false
set_option linter.unusedSimpArgs false
def tremaref01_Valid.f (a0 : Int) : Option (Bool) := if a0 ≥ 0 then (if a0 < 1114112 then (if a0 ≥ 55296 then (some (!(decide (a0 < 57344)))) else (some (!false))) else (some false)) else (some false)
set_option maxHeartbeats 8000000 in
set_option maxRecDepth 100000 in
theorem tremaref01_Valid.calls (a0 : Int) (r : Bool) (w : World) (h : tremaref01_Valid.f a0 = some r) :
  Calls Tryd.prog 92 #[.int .i32 a0] w fun e w' => e = .returned (.bool r) ∧ Drawn0 w w' := by
 have H : (if a0 ≥ 0 then (if a0 < 1114112 then (if a0 ≥ 55296 then (some (!(decide (a0 < 57344)))) else (some (!false))) else (some false)) else (some false)) = some r := h
 clear h
 by_cases c2 : a0 ≥ 0
 ·rw [if_pos c2] at H
  have c2b0 : decide (0 ≤ a0) = true := decide_eq_true c2
  clear c2
  by_cases c3 : a0 < 1114112
  ·rw [if_pos c3] at H
   have c3b0 : decide (a0 < 1114112) = true := decide_eq_true c3
   clear c3
   by_cases c4 : a0 ≥ 55296
   ·rw [if_pos c4] at H
    have c4b0 : decide (55296 ≤ a0) = true := decide_eq_true c4
    clear c4
    obtain rfl := Option.some.inj H
    go_enter Tryd.func92, Tryd.ntmps92
    go_wp2
    go_ret
    exact ⟨by first | rfl | (simp; done) | (simp [*]; done), by repeat (first | exact Drawn0.refl _ | apply Drawn0.step)⟩
   ·rw [if_neg c4] at H
    have c4b0 : decide (55296 ≤ a0) = false := decide_eq_false c4
    clear c4
    obtain rfl := Option.some.inj H
    go_enter Tryd.func92, Tryd.ntmps92
    go_wp2
    go_ret
    exact ⟨by first | rfl | (simp; done) | (simp [*]; done), by repeat (first | exact Drawn0.refl _ | apply Drawn0.step)⟩
  ·rw [if_neg c3] at H
   have c3b0 : decide (a0 < 1114112) = false := decide_eq_false c3
   clear c3
   obtain rfl := Option.some.inj H
   go_enter Tryd.func92, Tryd.ntmps92
   go_wp2
   go_ret
   exact ⟨by first | rfl | (simp; done) | (simp [*]; done), by repeat (first | exact Drawn0.refl _ | apply Drawn0.step)⟩
 ·rw [if_neg c2] at H
  have c2b0 : decide (0 ≤ a0) = false := decide_eq_false c2
  clear c2
  obtain rfl := Option.some.inj H
  go_enter Tryd.func92, Tryd.ntmps92
  go_wp2
  go_ret
  exact ⟨by first | rfl | (simp; done) | (simp [*]; done), by repeat (first | exact Drawn0.refl _ | apply Drawn0.step)⟩
end Go.Proofs.YtiggjbclbdikmaaDoor.X
