/-
  Several texts of this claim in one: what its law's proof uses.
-/
import Derived.Test.YtiggjbclbdikmaaDoorMSG2
import Derived.Test.YtiggjbclbdikmaaDoorMSG13
import Derived.Test.YtiggjbclbdikmaaDoorMSG8
import Derived.Test.YtiggjbclbdikmaaDoorMSG11
import Derived.Test.YtiggjbclbdikmaaDoorMSG7
import Derived.Test.YtiggjbclbdikmaaDoorMSG10
import Derived.Lib.SlBytesConst
import Derived.Test.YtiggjbclbdikmaaDoorRows
import Derived.Deep.Slices
import Derived.ChangeArms
import Derived.ChangeMaps
import Derived.SizedLaws
import Derived.OpenShut
import Derived.ProofKit
import Derived.LaidMore
import Derived.Stop.Joined
namespace Go.Proofs.YtiggjbclbdikmaaDoor.X
open Go.RowKit Go.Proofs.YtiggjbclbdikmaaDoorW.PrintWords Go.Proofs.YtiggjbclbdikmaaDoorW.PrintLast Go.Proofs.YtiggjbclbdikmaaDoorW.PrintMore
attribute [local go_sem] max2_int min2_int max_two min_two max_three min_three max_four min_four   
set_option linter.unusedVariables false
set_option linter.unusedSimpArgs false
def tremaref01_SameTexts.l0 : Nat → List ByteArray → List ByteArray → Int → Option (Bool)
 | 0, _, _, _ => none
 | k + 1, x0, x1, x5 => if x5 < (x0.length : Int) then (if 0 ≤ x5 then (if x5 < (x1.length : Int) then (if (rdOf ByteArray.empty x0 x5).toList = (rdOf ByteArray.empty x1 x5).toList then (tremaref01_SameTexts.l0 k x0 x1 (wrap64 (x5 + 1))) else (some false)) else (none)) else (none)) else (some true)
def tremaref01_SameTexts.f (k : Nat) (l0 : List ByteArray) (l1 : List ByteArray) : Option (Bool) := if (l0.length : Int) = (l1.length : Int) then (tremaref01_SameTexts.l0 k l0 l1 0) else (some false)
theorem tremaref01_SameTexts.mono_l : ∀ k, (∀ y0 y1 y2, LeO (tremaref01_SameTexts.l0 k y0 y1 y2) (tremaref01_SameTexts.l0 (k + 1) y0 y1 y2))
 | 0 => fun _ _ _ r h => by simp [tremaref01_SameTexts.l0] at h
 | k + 1 => by
  have ih0 := tremaref01_SameTexts.mono_l k
  ·intro y0 y1 y2
   unfold tremaref01_SameTexts.l0
   repeat' first
   | (with_reducible exact ih0 _ _ _)
   | (with_reducible exact LeO.refl _)
   | (with_reducible exact LeO.none _)
   | (with_reducible refine LeO.ite ?_ ?_)
   | (with_reducible refine LeO.bind ?_ (fun _ => ?_))
   | exact ih0 _ _ _
   | exact LeO.none _
   | refine LeO.ite ?_ ?_
   | refine LeO.bind ?_ (fun _ => ?_)
theorem tremaref01_SameTexts.mono : ∀ a0 a1 k, LeO (tremaref01_SameTexts.f k a0 a1) (tremaref01_SameTexts.f (k + 1) a0 a1) := by
 intro a0 a1 k
 have ih0 := tremaref01_SameTexts.mono_l k
 unfold tremaref01_SameTexts.f
 repeat' first
   | (with_reducible exact ih0 _ _ _)
   | (with_reducible exact LeO.refl _)
   | (with_reducible exact LeO.none _)
   | (with_reducible refine LeO.ite ?_ ?_)
   | (with_reducible refine LeO.bind ?_ (fun _ => ?_))
   | exact ih0 _ _ _
   | exact LeO.none _
   | refine LeO.ite ?_ ?_
   | refine LeO.bind ?_ (fun _ => ?_)
set_option maxHeartbeats 8000000 in
set_option maxRecDepth 100000 in
theorem tremaref01_SameTexts.calls (k : Nat) (A0 : Option Addr) (c0 : Nat) (l0 : List ByteArray) (A1 : Option Addr) (c1 : Nat) (l1 : List ByteArray) (r : Bool) (w : World) (hr0 : Kd.C Kd.string w A0 l0.length l0) (hc0 : l0.length ≤ c0) (hr1 : Kd.C Kd.string w A1 l1.length l1) (hc1 : l1.length ≤ c1) (h : tremaref01_SameTexts.f k l0 l1 = some r) :
  Calls Tryd.prog 42 #[.slice A0 l0.length c0, .slice A1 l1.length c1] w fun e w' => e = .returned (.bool r) ∧ Drawn0 w w' := by
 have HR0 := Aside0.mk hr0
 have HC0 := Aside0.mk hc0
 clear hr0 hc0
 have HR1 := Aside0.mk hr1
 have HC1 := Aside0.mk hc1
 clear hr1 hc1
 have H : (if (l0.length : Int) = (l1.length : Int) then (tremaref01_SameTexts.l0 k l0 l1 0) else (some false)) = some r := h
 clear h
 by_cases c3 : (l0.length : Int) = (l1.length : Int)
 ·rw [if_pos c3] at H
  have c3b0 : ((l0.length : Int) == (l1.length : Int)) = true := beq_iff_eq.mpr c3
  have c3b1 : ((l0.length : Int) != (l1.length : Int)) = false := bne_eq_false_iff_eq.mpr c3
  have c3b2 : (l0.length == l1.length) = true := by first | simpa using c3 | (simp at c3 ⊢; omega)
  clear c3
  have H' := Aside0.mk H
  clear H
  go_enter Tryd.func42, Tryd.ntmps42
  go_wp2
  repeat (go_quiet (fail); try go_wp2)
  go_loopg [5] k (fun kq v5 w' => ∃ (x5_1 : Int), v5 = .int .i64 x5_1 ∧ Aside0 (tremaref01_SameTexts.l0 kq l0 l1 x5_1 = some r) ∧ Aside0 (kq ≤ k) ∧ Drawn0 w w')
  case atStart => exact ⟨(0), (by first | rfl | (simp; done) | (simp [*]; done)), H', ⟨Nat.le_refl _⟩, by repeat (first | exact Drawn0.refl _ | apply Drawn0.step)⟩
  case round =>
   clear H'
   try clear c1
   try clear p2
   try clear c3
   try clear c3b0
   try clear c3b1
   try clear c3b2
   obtain ⟨x5_1, rfl, HA, HK1, ⟨m1, rfl⟩⟩ := hrel
   cases gk with
   | zero => exact absurd HA.out (by simp [tremaref01_SameTexts.l0])
   | succ k1 =>
    have H := HA.out
    clear HA
    simp only [tremaref01_SameTexts.l0] at H
    by_cases c4 : x5_1 < (l0.length : Int)
    ·rw [if_pos c4] at H
     have c4b0 : decide (x5_1 < (l0.length : Int)) = true := decide_eq_true c4
     clear c4
     by_cases c5 : 0 ≤ x5_1
     ·rw [if_pos c5] at H
      have c5b0 : decide (0 ≤ x5_1) = true := decide_eq_true c5
      clear c5
      by_cases c6 : x5_1 < (l1.length : Int)
      ·rw [if_pos c6] at H
       have c6b0 : decide (x5_1 < (l1.length : Int)) = true := decide_eq_true c6
       clear c6
       by_cases c7 : (rdOf ByteArray.empty l0 x5_1).toList = (rdOf ByteArray.empty l1 x5_1).toList
       ·rw [if_pos c7] at H
        have c7b0 : ((rdOf ByteArray.empty l0 x5_1).toList == (rdOf ByteArray.empty l1 x5_1).toList) = true := beq_iff_eq.mpr c7
        have c7b1 : ((rdOf ByteArray.empty l0 x5_1).toList != (rdOf ByteArray.empty l1 x5_1).toList) = false := bne_eq_false_iff_eq.mpr c7
        clear c7
        have H' := Aside0.mk H
        clear H
        have p442 : 0 ≤ (x5_1 : Int) := of_decide_eq_true (by first | (with_reducible assumption) | assumption)
        have q442 : x5_1 < (l0.length : Int) := of_decide_eq_true (by first | (with_reducible assumption) | assumption)
        obtain ⟨ad442, e442, hx442_0⟩ := Kd.at_string HR0.out x5_1 p442 q442
        cases e442
        replace p442 := eq_true p442
        replace q442 := eq_true q442
        have p443 : 0 ≤ (x5_1 : Int) := of_decide_eq_true (by first | (with_reducible assumption) | assumption)
        have q443 : x5_1 < (l1.length : Int) := of_decide_eq_true (by first | (with_reducible assumption) | assumption)
        obtain ⟨ad443, e443, hx443_0⟩ := Kd.at_string HR1.out x5_1 p443 q443
        cases e443
        replace p443 := eq_true p443
        replace q443 := eq_true q443
        go_wp2
        repeat (go_quiet (fail); try go_wp2)
        go_roundg k1
        case measure => have := HK1.out; omega
        case rel => exact ⟨(wrap64 (x5_1 + 1)), (by first | rfl | (simp; done) | (simp [*]; done)), H', ⟨by have := HK1.out; omega⟩, by repeat (first | exact Drawn0.refl _ | apply Drawn0.step)⟩
       ·rw [if_neg c7] at H
        have c7b0 : ((rdOf ByteArray.empty l0 x5_1).toList == (rdOf ByteArray.empty l1 x5_1).toList) = false := beq_eq_false_iff_ne.mpr c7
        have c7b1 : ((rdOf ByteArray.empty l0 x5_1).toList != (rdOf ByteArray.empty l1 x5_1).toList) = true := bne_iff_ne.mpr c7
        obtain rfl := Option.some.inj H
        have p442 : 0 ≤ (x5_1 : Int) := of_decide_eq_true (by first | (with_reducible assumption) | assumption)
        have q442 : x5_1 < (l0.length : Int) := of_decide_eq_true (by first | (with_reducible assumption) | assumption)
        obtain ⟨ad442, e442, hx442_0⟩ := Kd.at_string HR0.out x5_1 p442 q442
        cases e442
        replace p442 := eq_true p442
        replace q442 := eq_true q442
        have p443 : 0 ≤ (x5_1 : Int) := of_decide_eq_true (by first | (with_reducible assumption) | assumption)
        have q443 : x5_1 < (l1.length : Int) := of_decide_eq_true (by first | (with_reducible assumption) | assumption)
        obtain ⟨ad443, e443, hx443_0⟩ := Kd.at_string HR1.out x5_1 p443 q443
        cases e443
        replace p443 := eq_true p443
        replace q443 := eq_true q443
        go_wp2
        repeat (go_quiet (fail); try go_wp2)
        go_ret
        exact ⟨by first | rfl | (simp; done) | (simp [*]; done), by repeat (first | exact Drawn0.refl _ | apply Drawn0.step)⟩
      ·rw [if_neg c6] at H
       exact absurd H (by simp)
     ·rw [if_neg c5] at H
      exact absurd H (by simp)
    ·rw [if_neg c4] at H
     have c4b0 : decide (x5_1 < (l0.length : Int)) = false := decide_eq_false c4
     clear c4
     obtain rfl := Option.some.inj H
     go_wp2
     repeat (go_quiet (fail); try go_wp2)
     go_ret
     exact ⟨by first | rfl | (simp; done) | (simp [*]; done), by repeat (first | exact Drawn0.refl _ | apply Drawn0.step)⟩
 ·rw [if_neg c3] at H
  have c3b0 : ((l0.length : Int) == (l1.length : Int)) = false := beq_eq_false_iff_ne.mpr c3
  have c3b1 : ((l0.length : Int) != (l1.length : Int)) = true := bne_iff_ne.mpr c3
  have c3b2 : (l0.length == l1.length) = false := by first | simpa using c3 | (simp at c3 ⊢; omega)
  obtain rfl := Option.some.inj H
  go_enter Tryd.func42, Tryd.ntmps42
  go_wp2
  repeat (go_quiet (fail); try go_wp2)
  go_ret
  exact ⟨by first | rfl | (simp; done) | (simp [*]; done), by repeat (first | exact Drawn0.refl _ | apply Drawn0.step)⟩
end Go.Proofs.YtiggjbclbdikmaaDoor.X
namespace Go.Proofs.YtiggjbclbdikmaaDoor.Sgp
set_option linter.unusedVariables false
set_option linter.unusedSimpArgs false
open Go.Proofs.YtiggjbclbdikmaaDoor.Vd (decU)
open Go.Proofs.YtiggjbclbdikmaaDoor.Ve (opn)
open Go.Proofs.YtiggjbclbdikmaaDoor.Ux (Bytes one1 dc rest1 full dec)
open Go.Proofs.YtiggjbclbdikmaaDoor.En (enc fixr enc_byte enc_len)
open Go.RowKit Go.Proofs.YtiggjbclbdikmaaDoorW.PrintWords Go.Proofs.YtiggjbclbdikmaaDoor.Ev0 Go.Proofs.YtiggjbclbdikmaaDoor.X Go.Proofs.YtiggjbclbdikmaaDoor.Oa Go.Proofs.YtiggjbclbdikmaaDoor.Ob Go.Proofs.YtiggjbclbdikmaaDoor.Vp0 Go.Proofs.YtiggjbclbdikmaaDoor.Sga Go.Proofs.YtiggjbclbdikmaaDoor.Sgb Go.Proofs.YtiggjbclbdikmaaDoor.Sgc Go.Proofs.YtiggjbclbdikmaaDoor.Sgd
theorem lenF_txt (l : List Int) : lenF (txt l) = (nrm l).length := by
  unfold lenF txt Ot.rns
  rw [Ot.bytes_str _ (enc_byte _), Bk.full_ful]
  rw [Bk.ful_enc, List.length_map]
theorem flat_flat (l : List Int) (hl : ∀ x ∈ l, I32 x) : flat (flat l) = flat l := flat_id _ (fun y hy => (flat_bot l hl y hy).1)
theorem txt_flat (l : List Int) (hl : ∀ x ∈ l, I32 x) : txt (flat l) = txt l := by
  unfold txt nrm
  rw [flat_flat l hl]
theorem flat_ne (l : List Int) (h : l ≠ []) : flat l ≠ [] := by
  cases l with
  | nil => exact absurd rfl h
  | cons x t =>
    rw [flat_cons]
    intro e
    exact Ve.decF_ne 4 x (List.append_eq_nil_iff.1 e).1
def cutR : List SP → List Int → Int → Int → List SG
  | [], rs, a, e => [⟨txt rs, a, e⟩]
  | p :: t, rs, a, e => if opn p.f0 = true then ⟨txt rs, a, e⟩ :: cutR t [p.f0] p.f1 (p.f1 + p.f2) else cutR t (rs ++ [p.f0]) a (p.f1 + p.f2)
def cutS : List SP → List SG
  | [] => []
  | p :: t => cutR t [p.f0] p.f1 (p.f1 + p.f2)
def goodS (lim : Int) : List SG → List SG × Bool
  | [] => ([], false)
  | s :: l => if lim < (lenF s.f0 : Int) then ([], true) else (s :: (goodS lim l).1, (goodS lim l).2)
theorem long_first (lim : Int) : ∀ (t : List SP) (rs : List Int) (a e : Int), lim < ((flat rs).length : Int) → goodS lim (cutR t rs a e) = ([], true)
  | [], rs, a, e, h => by
    rw [cutR, goodS, if_pos (by rw [lenF_txt, nrm_len]; exact h)]
  | p :: t, rs, a, e, h => by
    rw [cutR]
    split
    · rw [goodS, if_pos (by rw [lenF_txt, nrm_len]; exact h)]
    · refine long_first lim t _ _ _ ?_
      rw [flat_app, List.length_append]
      omega
theorem tk_cut (lim : Int) : ∀ (t : List SP) (rs : List Int) (a e : Int), rs ≠ [] → (∀ x ∈ rs, I32 x) → (∀ p ∈ t, fine p) → ((flat rs).length : Int) ≤ lim →
    goodS lim (cutR t rs a e) = (fin (tk lim t (flat rs) a e), (tk lim t (flat rs) a e).2.2.2.2)
  | [], rs, a, e, hne, hrs, _, hl => by
    have h1 : (flat rs).isEmpty = false := by
      cases h : flat rs with
      | nil => exact absurd h (flat_ne rs hne)
      | cons x t => rfl
    rw [cutR, goodS, if_neg (by rw [lenF_txt, nrm_len]; omega), goodS]
    simp [tk, fin, h1, txt_flat rs hrs]
  | p :: t, rs, a, e, hne, hrs, hf, hl => by
    have h1 : (flat rs).isEmpty = false := by
      cases h : flat rs with
      | nil => exact absurd h (flat_ne rs hne)
      | cons x t => rfl
    have hp := hf p (List.mem_cons_self ..)
    have ht := fun q hq => hf q (List.mem_cons_of_mem _ hq)
    have hfl : flushB (flat rs) p.f0 = opn p.f0 := by unfold flushB; rw [h1]; rfl
    have e1 : flat [p.f0] = decU p.f0 := by simp [flat]
    rw [cutR, tk, hfl, txt_flat rs hrs]
    by_cases ho : opn p.f0 = true
    · rw [if_pos ho, if_pos ho, goodS, if_neg (by rw [lenF_txt, nrm_len]; omega)]
      by_cases hlm : lim < ((decU p.f0).length : Int)
      · rw [if_pos hlm, long_first lim t [p.f0] _ _ (by rw [e1]; exact hlm)]
        rfl
      · rw [if_neg hlm]
        have ih := tk_cut lim t [p.f0] p.f1 (p.f1 + p.f2) (by simp) (by intro x hx; rw [List.mem_singleton.1 hx]; exact hp.1) ht (by rw [e1]; omega)
        rw [e1] at ih
        rw [ih]
        have := fin_cat [⟨txt rs, a, e⟩] (tk lim t (decU p.f0) p.f1 (p.f1 + p.f2))
        unfold catT at this
        simp only [List.singleton_append] at this
        rw [this]
    · rw [if_neg ho, if_neg ho]
      have e2 : flat (rs ++ [p.f0]) = flat rs ++ decU p.f0 := by rw [flat_app, e1]
      by_cases hlm : lim < ((flat rs ++ decU p.f0).length : Int)
      · rw [if_pos hlm, long_first lim t _ _ _ (by rw [e2]; exact hlm)]
        rfl
      · rw [if_neg hlm]
        have ih := tk_cut lim t (rs ++ [p.f0]) a (p.f1 + p.f2) (by simp) (by intro x hx; rcases List.mem_append.1 hx with h | h; (· exact hrs x h); (· rw [List.mem_singleton.1 h]; exact hp.1)) ht (by rw [e2]; omega)
        rw [e2] at ih
        exact ih
theorem tk_cutS (lim : Int) (ps : List SP) (hf : ∀ p ∈ ps, fine p) (h0 : ∀ p t, ps = p :: t → p.f1 = 0) :
    goodS lim (cutS ps) = (fin (tk lim ps [] 0 0), (tk lim ps [] 0 0).2.2.2.2) := by
  cases ps with
  | nil => rfl
  | cons p t =>
    have hp := hf p (List.mem_cons_self ..)
    have ht := fun q hq => hf q (List.mem_cons_of_mem _ hq)
    have hz := h0 p t rfl
    have e1 : flat [p.f0] = decU p.f0 := by simp [flat]
    rw [cutS, tk, show flushB [] p.f0 = false from rfl, if_neg (by decide), List.nil_append]
    by_cases hlm : lim < ((decU p.f0).length : Int)
    · rw [if_pos hlm, long_first lim t _ _ _ (by rw [e1]; exact hlm)]
      rfl
    · rw [if_neg hlm]
      have ih := tk_cut lim t [p.f0] p.f1 (p.f1 + p.f2) (by simp) (by intro x hx; rw [List.mem_singleton.1 hx]; exact hp.1) ht (by rw [e1]; omega)
      rw [e1] at ih
      rw [ih, hz]
theorem full_fine (b : List Int) (hB : Bytes b) (hl : b.length ≤ 100000000) : ∀ p ∈ full b, fine p := by
  have hdl := Ux.dc_len b 0
  intro p hp
  rcases List.mem_append.1 hp with h | h
  · exact dec_fine b.length b 0 hB (Int.le_refl _) (by omega) p h
  · exact rest_fine _ _ (by omega) (by omega) p h
theorem full_at0 (b : List Int) : ∀ p t, full b = p :: t → p.f1 = 0 := by
  intro p t h
  cases b with
  | nil => cases h
  | cons c r =>
    rw [Bk.full_ful, Bk.ful_cons] at h
    rw [← (List.cons.inj h).1]
theorem split_cut (lim : Int) (b : List Int) (hB : Bytes b) (hl : b.length ≤ 100000000) (h1 : 1 ≤ lim) (h2 : lim ≤ 64) : splitF lim b = ((goodS lim (cutS (full b))).1, errOf (goodS lim (cutS (full b))).2) := by
  rw [tk_cutS lim (full b) (full_fine b hB hl) (full_at0 b)]
  exact if_neg (by omega)
theorem goodS_all (lim : Int) : ∀ l : List SG, (goodS lim l).2 = false → (goodS lim l).1 = l
  | [], _ => rfl
  | s :: l, h => by
    rw [goodS] at h ⊢
    split at h
    · cases h
    · rename_i hn
      rw [if_neg hn]
      exact congrArg (s :: ·) (goodS_all lim l h)
theorem texts_cut (b : List Int) (hB : Bytes b) (hl : b.length ≤ 100000000) : textsF b = (cutS (full b)).map (·.f0) := by
  have h := tk_cutS (3 * (b.length : Int) + 3) (full b) (full_fine b hB hl) (full_at0 b)
  have hn := tk_nobad (3 * (b.length : Int) + 3) (full b) [] 0 0 (full_fine b hB hl) (by have := Ud.full_len b; simp; omega)
  have h2 := goodS_all (3 * (b.length : Int) + 3) (cutS (full b)) (by rw [h]; exact hn)
  rw [h] at h2
  unfold textsF segs
  rw [← h2]
end Go.Proofs.YtiggjbclbdikmaaDoor.Sgp
namespace Go.Proofs.YtiggjbclbdikmaaDoor.Sgq
set_option linter.unusedVariables false
set_option linter.unusedSimpArgs false
open Go.Proofs.YtiggjbclbdikmaaDoor.Vd (decU)
open Go.Proofs.YtiggjbclbdikmaaDoor.Ve (opn)
open Go.Proofs.YtiggjbclbdikmaaDoor.Ux (Bytes one1 dc rest1 full dec)
open Go.Proofs.YtiggjbclbdikmaaDoor.En (enc fixr enc_byte enc_len)
open Go.RowKit Go.Proofs.YtiggjbclbdikmaaDoorW.PrintWords Go.Proofs.YtiggjbclbdikmaaDoor.Ev0 Go.Proofs.YtiggjbclbdikmaaDoor.X Go.Proofs.YtiggjbclbdikmaaDoor.Oa Go.Proofs.YtiggjbclbdikmaaDoor.Ob Go.Proofs.YtiggjbclbdikmaaDoor.Vp0 Go.Proofs.YtiggjbclbdikmaaDoor.Vr Go.Proofs.YtiggjbclbdikmaaDoor.Vu Go.Proofs.YtiggjbclbdikmaaDoor.Sga Go.Proofs.YtiggjbclbdikmaaDoor.Sgb Go.Proofs.YtiggjbclbdikmaaDoor.Sgc Go.Proofs.YtiggjbclbdikmaaDoor.Sgd Go.Proofs.YtiggjbclbdikmaaDoor.Sgp
theorem rdG {l : List SG} {i : Nat} (h : i < l.length) : rd_T69 l (i : Int) = l[i] := by unfold rd_T69; simp [List.getD_eq_getElem?_getD, List.getElem?_eq_getElem h]
theorem txt_size (rs : List Int) (h1 : ∀ x ∈ rs, I32 x) : (txt rs).size ≤ 12 * rs.length := by
  have := nrm_len3 rs h1
  have h := (enc_len (nrm rs)).2
  have e1 : (txt rs).size = (enc (nrm rs)).length := by unfold txt; rw [← bytesOf_length, Ot.bytes_str _ (enc_byte _)]
  rw [e1]
  omega
theorem cutR_size : ∀ (t : List SP) (rs : List Int) (a e : Int), (∀ x ∈ rs, I32 x) → (∀ p ∈ t, fine p) → rs.length + t.length ≤ 80000000 → (∀ s ∈ cutR t rs a e, s.f0.size ≤ 1000000000) ∧ (cutR t rs a e).length ≤ t.length + 1
  | [], rs, a, e, h1, _, h3 => by
    refine ⟨fun s hs => ?_, by simp [cutR]⟩
    rw [cutR, List.mem_singleton] at hs
    rw [hs]
    have h0 := txt_size rs h1
    simp only [List.length_nil] at h3
    show (txt rs).size ≤ _
    omega
  | p :: t, rs, a, e, h1, h2, h3 => by
    have hp := h2 p (List.mem_cons_self ..)
    have ht := fun q hq => h2 q (List.mem_cons_of_mem _ hq)
    rw [List.length_cons] at h3
    rw [cutR]
    split
    · have ih := cutR_size t [p.f0] p.f1 (p.f1 + p.f2) (by intro x hx; rw [List.mem_singleton.1 hx]; exact hp.1) ht (by simp; omega)
      have h0 := txt_size rs h1
      refine ⟨fun s hs => ?_, by simp only [List.length_cons]; omega⟩
      rcases List.mem_cons.1 hs with rfl | hs
      · show (txt rs).size ≤ _
        omega
      · exact ih.1 s hs
    · have ih := cutR_size t (rs ++ [p.f0]) a (p.f1 + p.f2) (by intro x hx; rcases List.mem_append.1 hx with h | h; (· exact h1 x h); (· rw [List.mem_singleton.1 h]; exact hp.1)) ht (by rw [List.length_append, List.length_singleton]; omega)
      exact ⟨ih.1, by simp only [List.length_cons]; omega⟩
theorem cutS_size (ps : List SP) (hf : ∀ p ∈ ps, fine p) (hl : ps.length ≤ 80000000) : (∀ s ∈ cutS ps, s.f0.size ≤ 1000000000) ∧ (cutS ps).length ≤ ps.length := by
  cases ps with
  | nil => exact ⟨by simp [cutS], by simp [cutS]⟩
  | cons p t =>
    have hp := hf p (List.mem_cons_self ..)
    rw [List.length_cons] at hl ⊢
    exact cutR_size t [p.f0] p.f1 (p.f1 + p.f2) (by intro x hx; rw [List.mem_singleton.1 hx]; exact hp.1) (fun q hq => hf q (List.mem_cons_of_mem _ hq)) (by simp; omega)
end Go.Proofs.YtiggjbclbdikmaaDoor.Sgq
namespace Go.Proofs.YtiggjbclbdikmaaDoor.X
open Go.RowKit Go.Proofs.YtiggjbclbdikmaaDoorW.PrintWords Go.Proofs.YtiggjbclbdikmaaDoorW.PrintLast Go.Proofs.YtiggjbclbdikmaaDoorW.PrintMore
attribute [local go_sem] max2_int min2_int max_two min_two max_three min_three max_four min_four   
set_option linter.unusedVariables false
set_option linter.unusedSimpArgs false
def slices_Equal_string_string.l0 : Nat → List ByteArray → List ByteArray → Int → Int → Option (Bool)
 | 0, _, _, _, _ => none
 | k + 1, x0, x1, x12, x13 => if x13 < x12 then (if 0 ≤ x13 then (if x13 < (x0.length : Int) then (if x13 < (x1.length : Int) then (if (rdOf ByteArray.empty x0 x13).toList = (rdOf ByteArray.empty x1 x13).toList then (slices_Equal_string_string.l0 k x0 x1 x12 (wrap64 (x13 + 1))) else (some false)) else (none)) else (none)) else (none)) else (some true)
def slices_Equal_string_string.f (k : Nat) (l0 : List ByteArray) (l1 : List ByteArray) : Option (Bool) := if (l0.length : Int) = (l1.length : Int) then (slices_Equal_string_string.l0 k l0 l1 (l0.length : Int) 0) else (some false)
theorem slices_Equal_string_string.mono_l : ∀ k, (∀ y0 y1 y2 y3, LeO (slices_Equal_string_string.l0 k y0 y1 y2 y3) (slices_Equal_string_string.l0 (k + 1) y0 y1 y2 y3))
 | 0 => fun _ _ _ _ r h => by simp [slices_Equal_string_string.l0] at h
 | k + 1 => by
  have ih0 := slices_Equal_string_string.mono_l k
  ·intro y0 y1 y2 y3
   unfold slices_Equal_string_string.l0
   repeat' first
   | (with_reducible exact ih0 _ _ _ _)
   | (with_reducible exact LeO.refl _)
   | (with_reducible exact LeO.none _)
   | (with_reducible refine LeO.ite ?_ ?_)
   | (with_reducible refine LeO.bind ?_ (fun _ => ?_))
   | exact ih0 _ _ _ _
   | exact LeO.none _
   | refine LeO.ite ?_ ?_
   | refine LeO.bind ?_ (fun _ => ?_)
theorem slices_Equal_string_string.mono : ∀ a0 a1 k, LeO (slices_Equal_string_string.f k a0 a1) (slices_Equal_string_string.f (k + 1) a0 a1) := by
 intro a0 a1 k
 have ih0 := slices_Equal_string_string.mono_l k
 unfold slices_Equal_string_string.f
 repeat' first
   | (with_reducible exact ih0 _ _ _ _)
   | (with_reducible exact LeO.refl _)
   | (with_reducible exact LeO.none _)
   | (with_reducible refine LeO.ite ?_ ?_)
   | (with_reducible refine LeO.bind ?_ (fun _ => ?_))
   | exact ih0 _ _ _ _
   | exact LeO.none _
   | refine LeO.ite ?_ ?_
   | refine LeO.bind ?_ (fun _ => ?_)
set_option maxHeartbeats 8000000 in
set_option maxRecDepth 100000 in
theorem slices_Equal_string_string.calls (k : Nat) (A0 : Option Addr) (c0 : Nat) (l0 : List ByteArray) (A1 : Option Addr) (c1 : Nat) (l1 : List ByteArray) (r : Bool) (w : World) (hr0 : Kd.C Kd.string w A0 l0.length l0) (hc0 : l0.length ≤ c0) (hr1 : Kd.C Kd.string w A1 l1.length l1) (hc1 : l1.length ≤ c1) (h : slices_Equal_string_string.f k l0 l1 = some r) :
  Calls Tryd.prog 74 #[.slice A0 l0.length c0, .slice A1 l1.length c1] w fun e w' => e = .returned (.bool r) ∧ Drawn0 w w' := by
 have HR0 := Aside0.mk hr0
 have HC0 := Aside0.mk hc0
 clear hr0 hc0
 have HR1 := Aside0.mk hr1
 have HC1 := Aside0.mk hc1
 clear hr1 hc1
 have H : (if (l0.length : Int) = (l1.length : Int) then (slices_Equal_string_string.l0 k l0 l1 (l0.length : Int) 0) else (some false)) = some r := h
 clear h
 by_cases c3 : (l0.length : Int) = (l1.length : Int)
 ·rw [if_pos c3] at H
  have c3b0 : ((l0.length : Int) == (l1.length : Int)) = true := beq_iff_eq.mpr c3
  have c3b1 : ((l0.length : Int) != (l1.length : Int)) = false := bne_eq_false_iff_eq.mpr c3
  have c3b2 : (l0.length == l1.length) = true := by first | simpa using c3 | (simp at c3 ⊢; omega)
  clear c3
  have H' := Aside0.mk H
  clear H
  go_enter Tryd.func74, Tryd.ntmps74
  go_wp2
  repeat (go_quiet (fail); try go_wp2)
  go_loopg [13] k (fun kq v13 w' => ∃ (x13_1 : Int), v13 = .int .i64 x13_1 ∧ Aside0 (slices_Equal_string_string.l0 kq l0 l1 (l0.length : Int) x13_1 = some r) ∧ Aside0 (kq ≤ k) ∧ Drawn0 w w')
  case atStart => exact ⟨(0), (by first | rfl | (simp; done) | (simp [*]; done)), H', ⟨Nat.le_refl _⟩, by repeat (first | exact Drawn0.refl _ | apply Drawn0.step)⟩
  case round =>
   clear H'
   try clear c1
   try clear p2
   try clear c3
   try clear c3b0
   try clear c3b1
   try clear c3b2
   obtain ⟨x13_1, rfl, HA, HK1, ⟨m1, rfl⟩⟩ := hrel
   cases gk with
   | zero => exact absurd HA.out (by simp [slices_Equal_string_string.l0])
   | succ k1 =>
    have H := HA.out
    clear HA
    simp only [slices_Equal_string_string.l0] at H
    by_cases c4 : x13_1 < (l0.length : Int)
    ·rw [if_pos c4] at H
     have c4b0 : decide (x13_1 < (l0.length : Int)) = true := decide_eq_true c4
     clear c4
     by_cases c5 : 0 ≤ x13_1
     ·rw [if_pos c5] at H
      have c5b0 : decide (0 ≤ x13_1) = true := decide_eq_true c5
      clear c5
      by_cases c6 : x13_1 < (l0.length : Int)
      ·rw [if_pos c6] at H
       have c6b0 : decide (x13_1 < (l0.length : Int)) = true := decide_eq_true c6
       clear c6
       by_cases c7 : x13_1 < (l1.length : Int)
       ·rw [if_pos c7] at H
        have c7b0 : decide (x13_1 < (l1.length : Int)) = true := decide_eq_true c7
        clear c7
        by_cases c8 : (rdOf ByteArray.empty l0 x13_1).toList = (rdOf ByteArray.empty l1 x13_1).toList
        ·rw [if_pos c8] at H
         have c8b0 : ((rdOf ByteArray.empty l0 x13_1).toList == (rdOf ByteArray.empty l1 x13_1).toList) = true := beq_iff_eq.mpr c8
         have c8b1 : ((rdOf ByteArray.empty l0 x13_1).toList != (rdOf ByteArray.empty l1 x13_1).toList) = false := bne_eq_false_iff_eq.mpr c8
         clear c8
         have H' := Aside0.mk H
         clear H
         have p498 : 0 ≤ (x13_1 : Int) := of_decide_eq_true (by first | (with_reducible assumption) | assumption)
         have q498 : x13_1 < (l0.length : Int) := of_decide_eq_true (by first | (with_reducible assumption) | assumption)
         obtain ⟨ad498, e498, hx498_0⟩ := Kd.at_string HR0.out x13_1 p498 q498
         cases e498
         replace p498 := eq_true p498
         replace q498 := eq_true q498
         have p499 : 0 ≤ (x13_1 : Int) := of_decide_eq_true (by first | (with_reducible assumption) | assumption)
         have q499 : x13_1 < (l1.length : Int) := of_decide_eq_true (by first | (with_reducible assumption) | assumption)
         obtain ⟨ad499, e499, hx499_0⟩ := Kd.at_string HR1.out x13_1 p499 q499
         cases e499
         replace p499 := eq_true p499
         replace q499 := eq_true q499
         go_wp2
         repeat (go_quiet (fail); try go_wp2)
         go_roundg k1
         case measure => have := HK1.out; omega
         case rel => exact ⟨(wrap64 (x13_1 + 1)), (by first | rfl | (simp; done) | (simp [*]; done)), H', ⟨by have := HK1.out; omega⟩, by repeat (first | exact Drawn0.refl _ | apply Drawn0.step)⟩
        ·rw [if_neg c8] at H
         have c8b0 : ((rdOf ByteArray.empty l0 x13_1).toList == (rdOf ByteArray.empty l1 x13_1).toList) = false := beq_eq_false_iff_ne.mpr c8
         have c8b1 : ((rdOf ByteArray.empty l0 x13_1).toList != (rdOf ByteArray.empty l1 x13_1).toList) = true := bne_iff_ne.mpr c8
         obtain rfl := Option.some.inj H
         have p498 : 0 ≤ (x13_1 : Int) := of_decide_eq_true (by first | (with_reducible assumption) | assumption)
         have q498 : x13_1 < (l0.length : Int) := of_decide_eq_true (by first | (with_reducible assumption) | assumption)
         obtain ⟨ad498, e498, hx498_0⟩ := Kd.at_string HR0.out x13_1 p498 q498
         cases e498
         replace p498 := eq_true p498
         replace q498 := eq_true q498
         have p499 : 0 ≤ (x13_1 : Int) := of_decide_eq_true (by first | (with_reducible assumption) | assumption)
         have q499 : x13_1 < (l1.length : Int) := of_decide_eq_true (by first | (with_reducible assumption) | assumption)
         obtain ⟨ad499, e499, hx499_0⟩ := Kd.at_string HR1.out x13_1 p499 q499
         cases e499
         replace p499 := eq_true p499
         replace q499 := eq_true q499
         go_wp2
         repeat (go_quiet (fail); try go_wp2)
         go_ret
         exact ⟨by first | rfl | (simp; done) | (simp [*]; done), by repeat (first | exact Drawn0.refl _ | apply Drawn0.step)⟩
       ·rw [if_neg c7] at H
        exact absurd H (by simp)
      ·rw [if_neg c6] at H
       exact absurd H (by simp)
     ·rw [if_neg c5] at H
      exact absurd H (by simp)
    ·rw [if_neg c4] at H
     have c4b0 : decide (x13_1 < (l0.length : Int)) = false := decide_eq_false c4
     clear c4
     obtain rfl := Option.some.inj H
     go_wp2
     repeat (go_quiet (fail); try go_wp2)
     go_ret
     exact ⟨by first | rfl | (simp; done) | (simp [*]; done), by repeat (first | exact Drawn0.refl _ | apply Drawn0.step)⟩
 ·rw [if_neg c3] at H
  have c3b0 : ((l0.length : Int) == (l1.length : Int)) = false := beq_eq_false_iff_ne.mpr c3
  have c3b1 : ((l0.length : Int) != (l1.length : Int)) = true := bne_iff_ne.mpr c3
  have c3b2 : (l0.length == l1.length) = false := by first | simpa using c3 | (simp at c3 ⊢; omega)
  obtain rfl := Option.some.inj H
  go_enter Tryd.func74, Tryd.ntmps74
  go_wp2
  repeat (go_quiet (fail); try go_wp2)
  go_ret
  exact ⟨by first | rfl | (simp; done) | (simp [*]; done), by repeat (first | exact Drawn0.refl _ | apply Drawn0.step)⟩
end Go.Proofs.YtiggjbclbdikmaaDoor.X
namespace Go.Proofs.YtiggjbclbdikmaaDoor.X
open Go.RowKit Go.Proofs.YtiggjbclbdikmaaDoorW.PrintWords Go.Proofs.YtiggjbclbdikmaaDoorW.PrintLast Go.Proofs.YtiggjbclbdikmaaDoorW.PrintMore
attribute [local go_sem] max2_int min2_int max_two min_two max_three min_three max_four min_four   
set_option linter.unusedVariables false
set_option linter.unusedSimpArgs false
def seg_Same.f (k : Nat) (l0 : List Int) (l1 : List Int) : Option (Bool) := (seg_Texts.f l0).bind fun t500 => ((seg_Texts.f l1).bind fun t503 => ((slices_Equal_string_string.f k t500 t503).bind fun t506 => (some t506)))
theorem seg_Same.mono : ∀ a0 a1 k, LeO (seg_Same.f k a0 a1) (seg_Same.f (k + 1) a0 a1) := by
 intro a0 a1 k
 unfold seg_Same.f
 repeat' first
   | (with_reducible exact slices_Equal_string_string.mono _ _ _)
   | (with_reducible exact LeO.refl _)
   | (with_reducible exact LeO.none _)
   | (with_reducible refine LeO.ite ?_ ?_)
   | (with_reducible refine LeO.bind ?_ (fun _ => ?_))
   | exact slices_Equal_string_string.mono _ _ _
   | exact LeO.none _
   | refine LeO.ite ?_ ?_
   | refine LeO.bind ?_ (fun _ => ?_)
set_option maxHeartbeats 8000000 in
set_option maxRecDepth 100000 in
theorem seg_Same.calls (k : Nat) (A0 : Option Addr) (c0 : Nat) (l0 : List Int) (A1 : Option Addr) (c1 : Nat) (l1 : List Int) (r : Bool) (w : World) (hr0 : Kd.C (Kd.int .u8) w A0 l0.length l0) (hc0 : l0.length ≤ c0) (hr1 : Kd.C (Kd.int .u8) w A1 l1.length l1) (hc1 : l1.length ≤ c1) (h : seg_Same.f k l0 l1 = some r) (hG0 : Va.G w) :
  Calls Tryd.prog 52 #[.slice A0 l0.length c0, .slice A1 l1.length c1] w fun e w' => e = .returned (.bool r) ∧ Below w.heap.size w w' := by
 have HG := Aside0.mk hG0
 clear hG0
 have HR0 := Aside0.mk hr0
 have HC0 := Aside0.mk hc0
 clear hr0 hc0
 have HR1 := Aside0.mk hr1
 have HC1 := Aside0.mk hc1
 clear hr1 hc1
 have HB := Aside0.mk (Below.refl w.heap.size w)
 have H : ((seg_Texts.f l0).bind fun t500 => ((seg_Texts.f l1).bind fun t503 => ((slices_Equal_string_string.f k t500 t503).bind fun t506 => (some t506)))) = some r := h
 clear h
 replace H := Option.bind_eq_some_iff.mp H
 obtain ⟨t500, A30, H⟩ := H
 replace H : ((seg_Texts.f l1).bind fun t503 => ((slices_Equal_string_string.f k t500 t503).bind fun t506 => (some t506))) = some r := H
 have A3 := Aside0.mk A30
 clear A30
 replace H := Option.bind_eq_some_iff.mp H
 obtain ⟨t503, A40, H⟩ := H
 replace H : ((slices_Equal_string_string.f k t500 t503).bind fun t506 => (some t506)) = some r := H
 have A4 := Aside0.mk A40
 clear A40
 replace H := Option.bind_eq_some_iff.mp H
 obtain ⟨t506, A50, H⟩ := H
 replace H : (some t506) = some r := H
 have A5 := Aside0.mk A50
 clear A50
 obtain rfl := Option.some.inj H
 go_enter Tryd.func52, Tryd.ntmps52
 go_wp2_with (first | ((with_reducible refine gate_callee (f := 43) rfl ?_); refine goesL_ (some 6) rfl rfl Tryd.func43 (by kernel_rfl) rfl #[.slice A0 l0.length c0] rfl (by (try simp only [List.map_toArray, List.map_cons, List.map_nil]); first | done | rfl | (simp only [List.length_drop, List.length_take]; rfl)) ?_; (with_reducible refine (seg_Texts.calls _ _ l0 t500 _ ?side1 ?side2 A3.out (by first | exact HG.out | exact Va.G.below HG.out (by repeat (first | (with_reducible first | exact HB.out | apply below_alloc | apply pw_below_drewN | apply below_drew1) | exact HB.out)))).mono ?_); (case side1 => repeat (first | exact HR0.out | (with_reducible refine Kd.C_alloc ?_ _) | (with_reducible refine Kd.C_drewN ?_ _) | (with_reducible refine Kd.C_drew ?_))); (case side2 => exact HC0.out); rintro e w6 ⟨v501, rfl, ho0, hb⟩; refine ⟨_, rfl, ?_⟩; have n0_ := Aside0.mk (Kd.R_lower ho0 (below_size (by repeat (first | (with_reducible first | exact HB.out | apply below_alloc | apply pw_below_drewN | apply below_drew1) | exact HB.out)))); have n1_ := Aside0.mk (below_step (by repeat (first | (with_reducible first | exact HB.out | apply below_alloc | apply pw_below_drewN | apply below_drew1) | exact HB.out)) hb); clear HB; have HO502 := n0_; have HB := n1_; clear n0_ n1_; (try clear hb); (try clear hb2); (try clear hk); (try clear hi); (try clear ho0)) | ((with_reducible refine gate_callee (f := 43) rfl ?_); refine goesL_ (some 8) rfl rfl Tryd.func43 (by kernel_rfl) rfl #[.slice A1 l1.length c1] rfl (by (try simp only [List.map_toArray, List.map_cons, List.map_nil]); first | done | rfl | (simp only [List.length_drop, List.length_take]; rfl)) ?_; (with_reducible refine (seg_Texts.calls _ _ l1 t503 _ ?side1 ?side2 A4.out (by first | exact HG.out | exact Va.G.below HG.out (by repeat (first | (with_reducible first | exact HB.out | apply below_alloc | apply pw_below_drewN | apply below_drew1) | exact HB.out)))).mono ?_); (case side1 => repeat (first | exact (Kd.C_below HR1.out HB.out) | (with_reducible refine Kd.C_alloc ?_ _) | (with_reducible refine Kd.C_drewN ?_ _) | (with_reducible refine Kd.C_drew ?_))); (case side2 => exact HC1.out); rintro e w7 ⟨v504, rfl, ho0, hb⟩; refine ⟨_, rfl, ?_⟩; have n0_ := Aside0.mk (Kd.R_elder' (by (with_reducible repeat (first | apply Kd.R_alloc | apply Kd.R_drewN | apply Kd.R_drew)); exact HO502.out) (Kd.R_base ho0) hb); have n1_ := Aside0.mk (Kd.R_lower (Kd.R_new' ho0 (Kd.R_lt (by (with_reducible repeat (first | apply Kd.R_alloc | apply Kd.R_drewN | apply Kd.R_drew)); exact HO502.out))) (below_size (by repeat (first | (with_reducible first | exact HB.out | apply below_alloc | apply pw_below_drewN | apply below_drew1) | exact HB.out)))); have n2_ := Aside0.mk (below_step (by repeat (first | (with_reducible first | exact HB.out | apply below_alloc | apply pw_below_drewN | apply below_drew1) | exact HB.out)) hb); clear HO502; clear HB; have HO502 := n0_; have HO505 := n1_; have HB := n2_; clear n0_ n1_ n2_; (try clear hb); (try clear hb2); (try clear hk); (try clear hi); (try clear ho0); obtain ⟨Ao8, co8, eo8⟩ := Kd.R_slice HO502.out; subst eo8; obtain ⟨Ao9, co9, eo9⟩ := Kd.R_slice HO505.out; subst eo9) | ((with_reducible refine gate_callee (f := 74) rfl ?_); refine goesL_ (some 9) rfl rfl Tryd.func74 (by kernel_rfl) rfl #[.slice Ao8 t500.length co8, .slice Ao9 t503.length co9] rfl (by (try simp only [List.map_toArray, List.map_cons, List.map_nil]); first | done | rfl | (simp only [List.length_drop, List.length_take]; rfl)) ?_; (with_reducible refine (slices_Equal_string_string.calls k _ _ t500 _ _ t503 t506 _ ?side1 ?side2 ?side3 ?side4 A5.out).mono ?_); (case side1 => repeat (first | exact (Kd.R_reads' HO502.out).2.2 | (with_reducible refine Kd.C_alloc ?_ _) | (with_reducible refine Kd.C_drewN ?_ _) | (with_reducible refine Kd.C_drew ?_))); (case side2 => exact (Kd.R_reads' HO502.out).2.1); (case side3 => repeat (first | exact (Kd.R_reads' HO505.out).2.2 | (with_reducible refine Kd.C_alloc ?_ _) | (with_reducible refine Kd.C_drewN ?_ _) | (with_reducible refine Kd.C_drew ?_))); (case side4 => exact (Kd.R_reads' HO505.out).2.1); rintro e w' ⟨rfl, ⟨nd, rfl⟩⟩; refine ⟨_, rfl, ?_⟩))
 go_ret
 exact ⟨by first | rfl | (simp [errW_none, errW_some] <;> rfl) | (simp [*, errW_none, errW_some] <;> rfl), by repeat (first | (with_reducible first | exact HB.out | apply below_alloc | apply pw_below_drewN | apply below_drew1) | exact HB.out)⟩
end Go.Proofs.YtiggjbclbdikmaaDoor.X
namespace Go.Proofs.YtiggjbclbdikmaaDoor.Sgf
set_option linter.unusedVariables false
set_option linter.unusedSimpArgs false
open Go.Proofs.YtiggjbclbdikmaaDoor.Fr (K3 T3)
open Go.Proofs.YtiggjbclbdikmaaDoor.Ux (Bytes one1 dc rest1 full dec)
open Go.Proofs.YtiggjbclbdikmaaDoor.Dc (decT)
open Go.RowKit Go.Proofs.YtiggjbclbdikmaaDoorW.PrintWords Go.Proofs.YtiggjbclbdikmaaDoor.Hp Go.Proofs.YtiggjbclbdikmaaDoor.Fm Go.Proofs.YtiggjbclbdikmaaDoor.X Go.Proofs.YtiggjbclbdikmaaDoor.Va Go.Proofs.YtiggjbclbdikmaaDoor.Oa Go.Proofs.YtiggjbclbdikmaaDoor.Vp0 Go.Proofs.YtiggjbclbdikmaaDoor.Cn Go.Proofs.YtiggjbclbdikmaaDoor.Sga Go.Proofs.YtiggjbclbdikmaaDoor.Sgb Go.Proofs.YtiggjbclbdikmaaDoor.Sgc Go.Proofs.YtiggjbclbdikmaaDoor.Sgd
section
variable {w0 w w' : World} {L M : List Th}
theorem litB (W : World) (cs : Array Value) (fr : Nat × Nat) (xs : List Int) (hc : cs.toList = nums .u8 xs) (hm : xs.length ≤ 9223372036854775807) : KB.C (W.alloc (.cells cs 5 fr)) (some ⟨W.heap.size, 0, none⟩) xs.length xs :=
  rdC (lit_reads (k := .u8) (heap_alloc_new W _) hc hm)
theorem splitC (hG : G w0) (S : Sep w0 L w) (A : Option Addr) (n c : Nat) (xs : List Int) (hC : KB.C w A n xs) (hn : n = xs.length) (hB : bytesB xs = true) (hl : n ≤ 100) (lim : Int) (out : List SG) (er : Int) (m : Nat) (hr : splitF lim xs = (out, er)) (hm : m = out.length) :
    Calls Tryd.prog 39 #[.slice A n c, .int .i64 lim] w fun E w' => ∃ A' c', E = .returned (.tuple #[.slice A' m c', .int .i64 er]) ∧ Sep w0 (L ++ [rowT kG TG w0.heap.size (.slice A' m c') out]) w' := by
  subst hm
  refine (SplitP w (hG.below S.below) A n c xs hC hn (bytesB_of hB) (by omega) lim).mono ?_
  rintro E w' ⟨v, rfl, p1, p2⟩
  rw [hr] at p1 ⊢
  obtain ⟨A', c', rfl⟩ := Kd.R_slice p1
  exact ⟨A', c', rfl, S.newR p1 p2⟩
theorem segLater {g gd : Nat} {lim dat a e er : Int} {kept o : List Int} {dcl cl : Bool} (S : Seg w0 g gd lim kept dat dcl o a e cl er M w) (h : Below w.heap.size w w') : Seg w0 g gd lim kept dat dcl o a e cl er M w' := by
  obtain ⟨ov, s⟩ := S
  exact ⟨ov, s.later h⟩
theorem writeC (hG : G w0) {g gd : Nat} {lim dat a e : Int} {kept o : List Int} (S : Seg w0 g gd lim kept dat false o a e false 0 M w) (A : Option Addr) (n c : Nat) (xs : List Int) (hC : KB.C w A n xs) (hB : bytesB (kept ++ xs) = true) (hlen : kept.length + n ≤ 100000000) (hat : 0 ≤ dat ∧ dat ≤ 1000000000000) (hlim : lim ≤ 50000000) (ho : (o.length : Int) ≤ lim) (ho32 : ok32 o = true)
    (pts : List SP) (kept' : List Int) (dat' : Int) (hp : dc (kept ++ xs) dat = (pts, kept', dat')) (out : List SG) (o' : List Int) (a' e' : Int) (bad : Bool) (hR : tk lim pts o a e = (out, o', a', e', bad)) (m : Nat) (hm : m = out.length) :
    Calls Tryd.prog 47 #[.pointer (some ⟨g, 0, none⟩), .slice A n c] w fun E w' => ∃ A' c', E = .returned (.tuple #[.slice A' m c', .int .i64 (errOf bad)]) ∧ Seg w0 g gd lim kept' dat' false o' a' e' false (errOf bad) (M ++ [rowT kG TG w0.heap.size (.slice A' m c') out]) w' := by
  subst hm
  refine (WriteOk w0 hG w g gd lim kept dat o a e M S A n c xs hC (bytesB_of hB) hlen hat hlim ho (ok32_of ho32) pts kept' dat' hp).mono ?_
  rw [hR]
  rintro E w' ⟨v, rfl, ov, s⟩
  obtain ⟨A', c', rfl, -, -⟩ := Sep.reads (d := kG) (e := TG) (base := w0.heap.size) (v := v) (xs := out) s (M.length + 3) (at3 _ _ _ M [] _)
  exact ⟨A', c', rfl, ov, s⟩
theorem closeC (hG : G w0) {g gd : Nat} {lim dat a e : Int} {kept o : List Int} (S : Seg w0 g gd lim kept dat false o a e false 0 M w) (hlen : kept.length ≤ 100000000) (hat : 0 ≤ dat ∧ dat ≤ 1000000000000) (hlim0 : 0 ≤ lim) (hlim : lim ≤ 50000000) (ho : (o.length : Int) ≤ lim) (ho32 : ok32 o = true)
    (out : List SG) (o' : List Int) (a' e' : Int) (bad : Bool) (hR : tk lim (rest1 kept dat) o a e = (out, o', a', e', bad)) (m : Nat) (hm : m = (fin (out, o', a', e', bad)).length) :
    Calls Tryd.prog 51 #[.pointer (some ⟨g, 0, none⟩)] w fun E w' => ∃ A' c', E = .returned (.tuple #[.slice A' m c', .int .i64 (errOf bad)]) ∧ Seg w0 g gd lim [] dat true [] a' e' true (errOf bad) (M ++ [rowT kG TG w0.heap.size (.slice A' m c') (fin (out, o', a', e', bad))]) w' := by
  subst hm
  refine (CloseOk w0 hG w g gd lim kept dat o a e M S hlen hat hlim0 hlim ho (ok32_of ho32)).mono ?_
  rw [hR]
  rintro E w' ⟨v, rfl, ov, s⟩
  obtain ⟨A', c', rfl, -, -⟩ := Sep.reads (d := kG) (e := TG) (base := w0.heap.size) (v := v) (xs := fin (out, o', a', e', bad)) s (M.length + 3) (at3 _ _ _ M [] _)
  exact ⟨A', c', rfl, ov, s⟩
theorem pendC {g gd : Nat} {lim dat a e er : Int} {kept o : List Int} {dcl cl : Bool} (S : Seg w0 g gd lim kept dat dcl o a e cl er M w) (m : Nat) (hm : m = o.length) : Calls Tryd.prog 49 #[.pointer (some ⟨g, 0, none⟩)] w fun E w' => E = .returned (.int .i64 m) ∧ w = w' := by
  subst hm
  obtain ⟨ov, s⟩ := S
  obtain ⟨A, c, rfl, -, -⟩ := s.reads 1 rfl
  exact PendR (s.blk 0 rfl).1
theorem errC {g gd : Nat} {lim dat a e er : Int} {kept o : List Int} {dcl cl : Bool} (S : Seg w0 g gd lim kept dat dcl o a e cl er M w) : Calls Tryd.prog 50 #[.pointer (some ⟨g, 0, none⟩)] w fun E w' => E = .returned (.int .i64 er) ∧ w = w' := by
  obtain ⟨ov, s⟩ := S
  exact ErrR (s.blk 0 rfl).1
end
theorem conv2 (W : World) (o : Obj) (C : Array Value) (n c : Nat) : (convert 27 27 (.slice (some ⟨W.heap.size + 1, 0, none⟩) n c)).run Tryd.prog ((W.alloc o).alloc (.cells C 5)) = .ok (.slice (some ⟨W.heap.size + 1, 0, none⟩) n c) ((W.alloc o).alloc (.cells C 5 (C.size, C.size + 1))) := by
  have := Lib.run_convert_bytes_const (P := Tryd.prog) (W.alloc o) 27 5 C n c Tryd.underlying27 Tryd.underlying5
  rw [World.size_alloc] at this
  exact this
theorem sameC (W : World) (hG : G W) : Calls Tryd.prog 52 #[.slice (some ⟨W.heap.size, 0, none⟩) 2 2, .slice (some ⟨W.heap.size + 1, 0, none⟩) 3 3] ((W.alloc (.cells #[.int .u8 195, .int .u8 169] 5 (2, 3))).alloc (.cells #[.int .u8 101, .int .u8 204, .int .u8 129] 5 (3, 4))) fun e w' => e = .returned (.bool true) ∧ Below W.heap.size W w' := by
  have b1 := below_alloc (Below.refl W.heap.size W) (.cells #[.int .u8 195, .int .u8 169] 5 (2, 3))
  have b2 := below_alloc (Below.refl _ (W.alloc (.cells #[.int .u8 195, .int .u8 169] 5 (2, 3)))) (.cells #[.int .u8 101, .int .u8 204, .int .u8 129] 5 (3, 4))
  have b12 := below_then b1 b1.size b2
  have h2 := litB (W.alloc (.cells #[.int .u8 195, .int .u8 169] 5 (2, 3))) #[.int .u8 101, .int .u8 204, .int .u8 129] (3, 4) [101, 204, 129] rfl (by simp)
  rw [World.size_alloc] at h2
  refine (seg_Same.calls 40 _ 2 [195, 169] _ 3 [101, 204, 129] true _ (Kd.C_below (litB W #[.int .u8 195, .int .u8 169] (2, 3) [195, 169] rfl (by simp)) b2) (Nat.le_refl _) h2 (Nat.le_refl _) (by kernel_rfl) (hG.below b12)).mono fun e w' ⟨h1, h3⟩ => ⟨h1, ?_⟩
  exact below_then b12 b12.size h3
theorem textsC (W : World) (hG : G W) : Calls Tryd.prog 43 #[.slice (some ⟨W.heap.size, 0, none⟩) 2 2] (W.alloc (.cells #[.int .u8 97, .int .u8 98] 5 (2, 3))) fun e w' => ∃ A c, e = .returned (.slice A 2 c) ∧ Below W.heap.size W w' := by
  have b1 := below_alloc (Below.refl W.heap.size W) (.cells #[.int .u8 97, .int .u8 98] 5 (2, 3))
  refine (seg_Texts.calls _ 2 [97, 98] [⟨#[97]⟩, ⟨#[98]⟩] _ (litB W #[.int .u8 97, .int .u8 98] (2, 3) [97, 98] rfl (by simp)) (Nat.le_refl _) (by kernel_rfl) (hG.below b1)).mono fun e w' ⟨v, h1, h2, h3⟩ => ?_
  obtain ⟨A, c, rfl⟩ := Kd.R_slice h2
  exact ⟨A, c, h1, below_then b1 b1.size h3⟩
def g1 : SG := ⟨⟨#[101, 204, 129]⟩, 0, 3⟩
def g2 : SG := ⟨⟨#[120]⟩, 3, 4⟩
def g3 : SG := ⟨⟨#[120]⟩, 0, 1⟩
theorem sp1 : splitF 8 [101, 204, 129, 120] = ([g1, g2], 0) := by kernel_rfl
theorem sp2 : splitF 2 [120, 97, 204, 129, 204, 130] = ([g3], 6) := by kernel_rfl
theorem sp3 : splitF 0 [] = ([], 1) := rfl
theorem d1 : dc ([] ++ [101]) 0 = ([⟨101, 0, 1⟩], [], 1) := by kernel_rfl
theorem t1 : tk 8 [⟨101, 0, 1⟩] [] 0 0 = ([], [101], 0, 1, false) := by kernel_rfl
theorem d2 : dc ([] ++ [204]) 1 = ([], [204], 1) := by kernel_rfl
theorem t2 : tk 8 [] [101] 0 1 = ([], [101], 0, 1, false) := rfl
theorem d3 : dc ([204] ++ [129, 120]) 1 = ([⟨769, 1, 2⟩, ⟨120, 3, 1⟩], [], 4) := by kernel_rfl
theorem t3 : tk 8 [⟨769, 1, 2⟩, ⟨120, 3, 1⟩] [101] 0 1 = ([g1], [120], 3, 4, false) := by kernel_rfl
theorem t4 : tk 8 (rest1 [] 4) [120] 3 4 = ([], [120], 3, 4, false) := rfl
theorem f4 : fin ([], [120], 3, 4, false) = [g2] := by kernel_rfl
set_option maxRecDepth 100000 in
set_option maxHeartbeats 8000000 in
theorem segFixedP (w : World) (hG : G w) : Calls Tryd.prog 38 #[] w fun e w' => e = .returned (.bool true) ∧ Below w.heap.size w w' := by
  have kc := fun (W : World) (C : Array Value) (n c : Nat) => Lib.run_convert_bytes_const (P := Tryd.prog) W 27 5 C n c Tryd.underlying27 Tryd.underlying5
  have kc2 := fun (W : World) (o : Obj) (C : Array Value) (n c : Nat) => conv2 W o C n c
  have s1 : (ByteArray.mk #[101, 204, 129] == ByteArray.mk #[101, 204, 129]) = true := by decide
  have S0 := Aside0.mk (Sep.nil w)
  have h0 : errOf false = 0 := rfl
  go_enter Tryd.func38, Tryd.ntmps38
  go_upto_region 2 with (first | (go_at_call 39; go_must (refine (splitC hG (S0.out.later (below_alloc (Below.refl _ _) _)) _ 4 4 [101, 204, 129, 120] (litB w _ _ [101, 204, 129, 120] rfl (by simp)) rfl rfl (by decide) 8 [g1, g2] 0 2 sp1 rfl).mono ?_; rintro E w1 ⟨A1, c1, rfl, p1⟩; have S1 := Aside0.mk p1; clear p1 S0)))
  go_upto_region 3 with (first | (go_at_call 39; go_must (refine (splitC hG (S1.out.later (below_alloc (Below.refl _ _) _)) _ 6 6 [120, 97, 204, 129, 204, 130] (litB w1 _ _ [120, 97, 204, 129, 204, 130] rfl (by simp)) rfl rfl (by decide) 2 [g3] 6 1 sp2 rfl).mono ?_; rintro E w2 ⟨A2, c2, rfl, p1⟩; have S2 := Aside0.mk p1; clear p1)))
  go_upto_region 4 with (first | (go_at_call 39; go_must (refine (splitC hG S2.out none 0 0 [] (Kd.C_nil KB w2) rfl rfl (by decide) 0 [] 1 0 sp3 rfl).mono ?_; rintro E w3 ⟨A3, c3, rfl, p1⟩; have S3 := Aside0.mk p1; clear p1 S2)))
  go_upto_region 7 with (first | (go_at_call 46; go_must (refine (NewOk S3.out 8 (by decide) (by decide)).mono ?_; rintro E w4 ⟨g, gd, rfl, p1⟩; have S4 := Aside0.mk p1; clear p1 S3)))
  go_upto_region 8 with (first | (go_at_call 47; go_must (refine (writeC hG (segLater S4.out (below_alloc (Below.refl _ _) _)) _ 1 1 [101] (litB w4 _ _ [101] rfl (by simp)) rfl (by decide) (by decide) (by decide) (by decide) rfl _ _ _ d1 _ _ _ _ _ t1 0 rfl).mono ?_; rintro E w5 ⟨A5, c5, rfl, p1⟩; have S5 := Aside0.mk p1; clear p1 S4)))
  go_upto_region 9 with (first | (go_at_call 47; go_must (refine (writeC hG (segLater S5.out (below_alloc (Below.refl _ _) _)) _ 1 1 [204] (litB w5 _ _ [204] rfl (by simp)) rfl (by decide) (by decide) (by decide) (by decide) rfl _ _ _ d2 _ _ _ _ _ t2 0 rfl).mono ?_; rintro E w6 ⟨A6, c6, rfl, p1⟩; have S6 := Aside0.mk p1; clear p1 S5)))
  go_upto_region 10 with (first | (go_at_call 49; go_must (refine (pendC S6.out 1 rfl).mono ?_; rintro E w7 ⟨rfl, rfl⟩)))
  go_upto_region 11 with (first | (go_at_call 47; go_must (refine (writeC hG (segLater S6.out (below_alloc (Below.refl _ _) _)) _ 2 2 [129, 120] (litB w6 _ _ [129, 120] rfl (by simp)) rfl (by decide) (by decide) (by decide) (by decide) rfl _ _ _ d3 _ _ _ _ _ t3 1 rfl).mono ?_; rintro E w8 ⟨A8, c8, rfl, p1⟩; have S8 := Aside0.mk p1; clear p1 S6)))
  go_upto_region 12 with (first | (go_at_call 51; go_must (refine (closeC hG S8.out (by decide) (by decide) (by decide) (by decide) (by decide) rfl _ _ _ _ _ t4 1 (by rw [f4]; rfl)).mono ?_; rw [f4]; rintro E w9 ⟨A9, c9, rfl, p1⟩; have S9 := Aside0.mk p1; clear p1 S8)))
  obtain ⟨ov, hS⟩ := S9.out
  obtain ⟨ad, rfl, z0, z1, z2⟩ := sg_at (Sep.rows (d := kG) (e := TG) (base := w.heap.size) (A := A1) (m := 2) (c := c1) (xs := [g1, g2]) hS 3 rfl).2.2 0 (by decide) (by decide)
  rw [Nat.zero_mul, show ad.add 0 = ad by cases ad; simp [Addr.add]] at z0 z1 z2
  replace z0 : w9.cell? ad = some (.string ⟨#[101, 204, 129]⟩) := z0
  replace z1 : w9.cell? ⟨ad.block, ad.off + 1, none⟩ = some (.int .i64 0) := z1
  replace z2 : w9.cell? ⟨ad.block, ad.off + 2, none⟩ = some (.int .i64 3) := z2
  have HB := Aside0.mk hS.below
  clear hS
  have HGG := Aside0.mk hG
  go_wp2_with (first | (go_at_call 50; go_must (refine (errC S9.out).mono ?_; rintro E w10 ⟨rfl, rfl⟩)) | (go_at_call 52; go_must (refine (sameC w9 (HGG.out.below HB.out)).mono ?_; rintro E w11 ⟨rfl, p1⟩; have n0_ := Aside0.mk (below_then HB.out HB.out.size p1); clear HB p1; have HB := n0_; clear n0_)) | (go_at_call 43; go_must (refine (textsC w11 (HGG.out.below HB.out)).mono ?_; rintro E w12 ⟨A12, c12, rfl, p1⟩; have n0_ := Aside0.mk (below_then HB.out HB.out.size p1); clear HB p1; have HB := n0_; clear n0_)))
  go_ret
  exact ⟨rfl, HB.out⟩
end Go.Proofs.YtiggjbclbdikmaaDoor.Sgf
namespace Go.Proofs.YtiggjbclbdikmaaDoor.X
set_option linter.unusedVariables false
set_option linter.unusedSimpArgs false
open Go.RowKit Go.Proofs.YtiggjbclbdikmaaDoorW.PrintWords
def tremalaw04_fixed.f : Option Bool := some true
theorem tremalaw04_fixed.calls (r : Bool) (w : World) (h : tremalaw04_fixed.f = some r) (hG0 : Va.G w) : Calls Tryd.prog 38 #[] w fun e w' => e = .returned (.bool r) ∧ Below w.heap.size w w' := by
  cases Option.some.inj h
  exact Sgf.segFixedP w hG0
end Go.Proofs.YtiggjbclbdikmaaDoor.X
namespace Go.Proofs.YtiggjbclbdikmaaDoor.Sgr
set_option linter.unusedVariables false
set_option linter.unusedSimpArgs false
open Go.Proofs.YtiggjbclbdikmaaDoor.Ux (Bytes one1 dc rest1 full dec)
open Go.RowKit Go.Proofs.YtiggjbclbdikmaaDoorW.PrintWords Go.Proofs.YtiggjbclbdikmaaDoor.Ev0 Go.Proofs.YtiggjbclbdikmaaDoor.X Go.Proofs.YtiggjbclbdikmaaDoor.Oa Go.Proofs.YtiggjbclbdikmaaDoor.Ob Go.Proofs.YtiggjbclbdikmaaDoor.Vp0 Go.Proofs.YtiggjbclbdikmaaDoor.Vr Go.Proofs.YtiggjbclbdikmaaDoor.Vu Go.Proofs.YtiggjbclbdikmaaDoor.Sga Go.Proofs.YtiggjbclbdikmaaDoor.Sgb Go.Proofs.YtiggjbclbdikmaaDoor.Sgc Go.Proofs.YtiggjbclbdikmaaDoor.Sgd Go.Proofs.YtiggjbclbdikmaaDoor.Sgp Go.Proofs.YtiggjbclbdikmaaDoor.Sgq
theorem fsize (b : List Int) (hB : Bytes b) (hl : b.length ≤ 10000000) : (∀ s ∈ cutS (full b), s.f0.size ≤ 1000000000) ∧ (cutS (full b)).length ≤ b.length := by
  have hfl := Ud.full_len b
  have h := cutS_size (full b) (full_fine b hB (by omega)) (by omega)
  exact ⟨h.1, by omega⟩
theorem ba_loop (b : ByteArray) : ∀ (q i : Nat) (r : List UInt8), i + q = b.size → ByteArray.toList.loop b i r = r.reverse ++ b.data.toList.drop i := by
  intro q
  induction q with
  | zero =>
    intro i r h
    rw [ByteArray.toList.loop]
    rw [if_neg (by omega), List.drop_eq_nil_of_le (by rw [Array.length_toList]; show b.size ≤ i; omega), List.append_nil]
  | succ q ih =>
    intro i r h
    have hi : i < b.data.toList.length := by rw [Array.length_toList]; show i < b.size; omega
    rw [ByteArray.toList.loop, if_pos (by omega), ih (i + 1) _ (by omega), List.drop_eq_getElem_cons hi]
    have e : b.get! i = b.data.toList[i] := by
      rw [Array.getElem_toList]
      show b.data[i]! = _
      exact getElem!_pos b.data i _
    rw [e]
    simp
theorem ba_data (b : ByteArray) : b.toList = b.data.toList := by
  unfold ByteArray.toList
  rw [ba_loop b b.size 0 [] (by omega)]
  simp
theorem ba_list (a b : ByteArray) : a.toList = b.toList ↔ a = b := by
  rw [ba_data, ba_data]
  constructor
  · intro h
    cases a
    cases b
    exact congrArg ByteArray.mk (Array.toList_inj.1 h)
  · intro h
    rw [h]
theorem rdS {l : List ByteArray} {i : Nat} (h : i < l.length) : rdOf ByteArray.empty l (i : Int) = l[i] := by unfold rdOf; simp [List.getD_eq_getElem?_getD, List.getElem?_eq_getElem h]
theorem sameTEv (l m : List ByteArray) (hl : l.length ≤ 100000000) : Ev (fun k => tremaref01_SameTexts.f k l m) (decide (l = m)) := by
  unfold tremaref01_SameTexts.f
  by_cases hlm : l.length = m.length
  · simp only [if_pos (show (l.length : Int) = (m.length : Int) by omega)]
    have key : ∀ q i : Nat, i + q = l.length → (l.take i = m.take i) → Ev (fun k => tremaref01_SameTexts.l0 k l m (i : Int)) (decide (l = m)) := by
      intro q
      induction q with
      | zero =>
        intro i hi hp
        obtain rfl : i = l.length := hi
        refine Ev.step (fun k => tremaref01_SameTexts.l0.eq_2 ..) ?_
        simp only [if_neg (Int.lt_irrefl _)]
        have e : l = m := by rw [List.take_length, hlm, List.take_length] at hp; exact hp
        rw [decide_eq_true e]
        exact Ev.now _
      | succ q ih =>
        intro i hi hp
        have hil : i < l.length := by omega
        have him : i < m.length := by omega
        refine Ev.step (fun k => tremaref01_SameTexts.l0.eq_2 ..) ?_
        simp only [if_pos (show (i : Int) < (l.length : Int) by omega), if_pos (show (0 : Int) ≤ (i : Int) by omega), if_pos (show (i : Int) < (m.length : Int) by omega), rdS hil, rdS him, ba_list]
        by_cases he : l[i] = m[i]
        · simp only [if_pos he, w64 (i := i) (by omega)]
          refine ih (i + 1) (by omega) ?_
          rw [List.take_succ_eq_append_getElem hil, List.take_succ_eq_append_getElem him, hp, he]
        · simp only [if_neg he]
          rw [decide_eq_false (fun h => he (by subst h; rfl))]
          exact Ev.now _
    exact key l.length 0 (by omega) rfl
  · simp only [if_neg (show ¬ (l.length : Int) = (m.length : Int) by omega)]
    rw [decide_eq_false (fun h => hlm (by rw [h]))]
    exact Ev.now _
theorem bytesB_mk {l : List Int} (h : Bytes l) : bytesB l = true := by
  unfold bytesB
  rw [List.all_eq_true]
  intro x hx
  have := h x hx
  simp
  omega
end Go.Proofs.YtiggjbclbdikmaaDoor.Sgr
namespace Go.Proofs.YtiggjbclbdikmaaDoor.Od
set_option linter.unusedVariables false
set_option linter.unusedSimpArgs false
open Go.RowKit Go.Proofs.YtiggjbclbdikmaaDoorW.PrintWords Go.Proofs.YtiggjbclbdikmaaDoor.Hp Go.ChangeShapes Go.WideShapes
def Opens {α : Type} (P : Program) (t : TypeId) (d : Kd α) (wf : α → Prop) (bulk : α → Nat) : Prop :=
  ∀ (H : Type) (enc : TypeId × Value → H) (w : World) (base : Nat) (spare : Nat → Bool) (held : Bool) (fuel : Nat) (cs : List Value) (x : DataW H × List MemPlace),
    DataW.trod enc P w base spare held fuel t cs = some x → ∃ a, d.K w a cs ∧ wf a ∧ bulk a ≤ Rows.uptoBulk x.1
def sumB {α : Type} (bulk : α → Nat) : List α → Nat
  | [] => 0
  | a :: l => bulk a + sumB bulk l
theorem sumB_len {α : Type} {bulk : α → Nat} (h1 : ∀ a, 1 ≤ bulk a) (l : List α) : l.length ≤ sumB bulk l := by
  induction l with
  | nil => simp [sumB]
  | cons x l ih => simp only [sumB, List.length_cons]; have := h1 x; omega
theorem bulkAll_append {H : Type} (l r : List (DataW H)) : Rows.uptoBulkAll (l ++ r) = Rows.uptoBulkAll l + Rows.uptoBulkAll r := by
  induction l with
  | nil => simp [Rows.uptoBulkAll]
  | cons x l ih => simp only [List.cons_append, Rows.uptoBulkAll, ih]; omega
section
variable {P : Program}
theorem opens_int {t : TypeId} {k : IntKind} (ht : P.underlying t = some (.int k)) : Opens P t (Kd.int k) (fun n => (Lit.int k n).wf = true) (fun _ => 1) := by
  intro H enc w base spare held fuel cs x h
  obtain ⟨n, rfl, rfl, hw⟩ := DataW.trod_int ht h
  exact ⟨n, rfl, hw, by simp [Rows.uptoBulk]⟩
theorem slice_list {α : Type} {d : Kd α} {wf : α → Prop} {bulk : α → Nat} {e : TypeId} {H : Type} {enc : TypeId × Value → H} {w : World} {base : Nat} {spare : Nat → Bool} {held : Bool} (ho : Opens P e d wf bulk) (hC : P.cellsOf e = d.sz) {a : Addr} {m n : Nat} {D : Nat → DataW H} {Pl : Nat → List MemPlace}
    (hx : ∀ i, i < m → ∃ cs', w.cells? base (a.add (i * P.cellsOf e)) (P.cellsOf e) = some cs' ∧ DataW.trod enc P w base spare held n e cs' = some (D i, Pl i)) (len : Nat) (hl : len ≤ m) (hM : len ≤ 9223372036854775807) :
    ∃ xs : List α, xs.length = len ∧ d.C w (some a) len xs ∧ (∀ x, x ∈ xs → wf x) ∧ sumB bulk xs ≤ Rows.uptoBulkAll ((List.range len).map D) := by
  have key : ∀ k, k ≤ len → ∃ xs : List α, xs.length = k ∧ (∀ j p, xs[j]? = some p → ∃ c, c.length = d.sz ∧ d.K w p c ∧ ∀ i u, c[i]? = some u → w.cell? (a.add (j * d.sz + i)) = some u) ∧ (∀ x, x ∈ xs → wf x) ∧ sumB bulk xs ≤ Rows.uptoBulkAll ((List.range k).map D) := by
    intro k
    induction k with
    | zero => exact fun _ => ⟨[], rfl, by simp, by simp, by simp [sumB]⟩
    | succ k ih =>
      intro hk
      obtain ⟨xs, h1, h2, h3, h4⟩ := ih (by omega)
      obtain ⟨cs', hc, ht⟩ := hx k (by omega)
      obtain ⟨p, hK, hw, hb⟩ := ho H enc w base spare held n cs' _ ht
      obtain ⟨_, hcl, hcell⟩ := World.cells?_some hc
      refine ⟨xs ++ [p], by simp [h1], ?_, ?_, ?_⟩
      · intro j q hq
        rw [List.getElem?_append] at hq
        split at hq
        · exact h2 j q hq
        · rename_i hge
          rcases Nat.lt_or_ge (j - xs.length) 1 with h5 | h5
          · have hj : j = k := by omega
            subst hj
            rw [h1, Nat.sub_self] at hq
            simp at hq
            subst hq
            refine ⟨cs', by rw [hcl, hC], hK, fun i u hu => ?_⟩
            have hi : i < P.cellsOf e := by rw [← hcl]; exact (List.getElem?_eq_some_iff.1 hu).1
            have := hcell i hi
            rw [Go.Deep.add_add, hC] at this
            rw [this, hu]
          · rw [List.getElem?_eq_none (by simpa using h5)] at hq; cases hq
      · intro x hx
        rcases List.mem_append.1 hx with hx | hx
        · exact h3 x hx
        · rw [List.mem_singleton.1 hx]; exact hw
      · have e2 : sumB bulk (xs ++ [p]) = sumB bulk xs + bulk p := by
          clear h1 h2 h3 h4
          induction xs with
          | nil => simp [sumB]
          | cons y ys ih2 => simp only [List.cons_append, sumB, ih2]; omega
        rw [e2, List.range_succ, List.map_append, bulkAll_append]
        simp only [List.map_cons, List.map_nil, Rows.uptoBulkAll]
        have hb2 : bulk p ≤ Rows.uptoBulk (D k) := hb
        omega
  obtain ⟨xs, h1, h2, h3, h4⟩ := key len (Nat.le_refl _)
  exact ⟨xs, h1, ⟨h1, hM, fun _ => ⟨a, rfl, h2⟩⟩, h3, h4⟩
theorem arg_slice {α : Type} {d : Kd α} {wf : α → Prop} {bulk : α → Nat} {t e : TypeId} (ht : P.underlying t = some (.slice e)) (hC : P.cellsOf e = d.sz) (ho : Opens P e d wf bulk)
    {H : Type} {enc : TypeId × Value → H} {w : World} {base : Nat} {spare : Nat → Bool} {held : Bool} {v : Value} {data : DataW H} {ps : List MemPlace} {r : Reach} {b0 : Nat} (hv : Value.okWide P w r b0 t v) (h : DataW.Trod enc P w base spare held t v data ps) :
    ∃ A xs c, v = .slice A xs.length c ∧ xs.length ≤ c ∧ d.C w A xs.length xs ∧ (∀ x, x ∈ xs → wf x) ∧ sumB bulk xs + 1 ≤ Rows.uptoBulk data ∧
      (∀ (ts : List TypeId) (ds : List (DataW H)) (j B : Nat), (DataW.weightsEach P ts ds).all (· ≤ reachBytes) = true → ts[j]? = some t → ds[j]? = some data → P.bytesOf e = B → xs.length * B ≤ 140737488351232) := by
  obtain ⟨a0, len0, cap0, rfl⟩ := okWide_slice ht hv
  obtain ⟨fuel, hf⟩ := h
  rcases Go.Deep.open_slice ht hf with ⟨hcs, hx⟩ | ⟨a, len, cap, m, n, D, Pl, hcs, hb, hl, hm, hmm, hx, hi⟩
  · simp [Value.cells] at hcs
    obtain ⟨rfl, rfl, rfl⟩ := hcs
    obtain ⟨rfl, rfl⟩ := Prod.mk.inj hx
    exact ⟨none, [], 0, rfl, Nat.le_refl _, Kd.C_nil d w, by simp, by simp [sumB, Rows.uptoBulk], by simp⟩
  · simp [Value.cells] at hcs
    obtain ⟨rfl, rfl, rfl⟩ := hcs
    obtain ⟨rfl, rfl⟩ := Prod.mk.inj hx
    obtain ⟨xs, h1, h2, h3, h4⟩ := slice_list ho hC hi len0 (by rw [hmm]; split <;> omega) (by simp only [maxLen] at hm; omega)
    subst h1
    refine ⟨some a, xs, cap0, rfl, hl, h2, h3, by simp only [Rows.uptoBulk]; omega, ?_⟩
    intro ts ds j B hsz htj hdj hB
    have z := sized_slice hsz htj hdj ht
    rw [hB] at z
    have hr : reachBytes = 140737488351232 := by decide
    simp only [List.length_map, List.length_range] at z
    rw [hr] at z
    exact Nat.le_trans (Nat.mul_le_mul_right _ (by omega)) z
end
end Go.Proofs.YtiggjbclbdikmaaDoor.Od
namespace Go.Proofs.YtiggjbclbdikmaaDoor.Lv
set_option linter.unusedVariables false
set_option linter.unusedSimpArgs false
open Go.ChangeShapes Go.WideShapes Go.ChangeAt Go.RowKit Go.Proofs.YtiggjbclbdikmaaDoorW.PrintWords Go.Proofs.YtiggjbclbdikmaaDoor.Va
theorem ints_of_array {H : Type} {enc : TypeId × Value → H} {P : Program} {w : World} {base : Nat} {sp : Nat → Bool} {held : Bool} {fuel : Nat} {t e : TypeId} {k : IntKind} {n : Nat} {cs : List Value} {l : List Int} {p : List MemPlace}
    (ht : P.underlying t = some (.array n e)) (he : P.underlying e = some (.int k)) (hC : P.cellsOf e = 1) (hT : P.cellsOf t = n) (h : DataW.trod enc P w base sp held fuel t cs = some (.agg (l.map fun x => .lit (.int k x)), p)) : cs = nums k l := by
  obtain ⟨xs, m, -, hx, hl, hxl, hi⟩ := DataW.trod_array ht h
  obtain ⟨hx1, -⟩ := Prod.mk.inj hx
  injection hx1 with hx1
  have hln : l.length = n := by have := congrArg List.length hx1; simpa [hxl] using this
  rw [hT] at hl
  unfold nums
  refine List.ext_getElem (by simp [hl, hln]) fun i h1 h2 => ?_
  have hin : i < n := by omega
  have hxi := hi i hin
  rw [hC, Nat.mul_one, List.getElem?_eq_getElem (by omega : i < xs.length)] at hxi
  obtain ⟨z, e1, e2, -⟩ := DataW.trod_int he hxi
  have e3 : (xs[i]'(by omega)).1 = DataW.lit (.int k (l[i]'(by omega))) := by
    have := congrArg (fun q => q[i]?) hx1
    simp [List.getElem?_eq_getElem (show i < l.length by omega), List.getElem?_eq_getElem (show i < xs.length by omega)] at this
    exact this.symm
  rw [e2] at e3
  injection e3 with e3
  injection e3 with _ e3
  have e4 : cs[i]'h1 = .int k z := by
    rw [List.drop_eq_getElem_cons h1, List.take_succ_cons, List.take_zero] at e1
    exact (List.cons.inj e1).1
  rw [e4, List.getElem_map, e3]
theorem triples_of_array {H : Type} {enc : TypeId × Value → H} {P : Program} {w : World} {base : Nat} {sp : Nat → Bool} {held : Bool} {fuel : Nat} {t e e3 : TypeId} {n : Nat} {cs : List Value} {l : List (Int × Int × Int)} {p : List MemPlace}
    (ht : P.underlying t = some (.array n e)) (he : P.underlying e = some (.array 3 e3)) (he3 : P.underlying e3 = some (.int .i32)) (hC3 : P.cellsOf e3 = 1) (hC : P.cellsOf e = 3) (hT : P.cellsOf t = n * 3) (h : DataW.trod enc P w base sp held fuel t cs = some (.agg (l.map fun x => .agg ([x.1, x.2.1, x.2.2].map fun y => .lit (.int .i32 y))), p)) : cs = cells3 l := by
  obtain ⟨xs, m, -, hx, hl, hxl, hi⟩ := DataW.trod_array ht h
  obtain ⟨hx1, -⟩ := Prod.mk.inj hx
  injection hx1 with hx1
  have hln : l.length = n := by have := congrArg List.length hx1; simpa [hxl] using this
  rw [hT] at hl
  have key : ∀ i (hin : i < l.length), (cs.drop (i * 3)).take 3 = nums .i32 [l[i].1, l[i].2.1, l[i].2.2] := by
    intro i hin
    have hxi := hi i (by omega)
    rw [hC, List.getElem?_eq_getElem (by omega : i < xs.length)] at hxi
    have e3' : (xs[i]'(by omega)).1 = DataW.agg ([l[i].1, l[i].2.1, l[i].2.2].map fun y => .lit (.int .i32 y)) := by
      have := congrArg (fun q => q[i]?) hx1
      simp [List.getElem?_eq_getElem (show i < l.length by omega), List.getElem?_eq_getElem (show i < xs.length by omega)] at this
      exact this.symm
    rw [show xs[i]'(by omega) = ((xs[i]'(by omega)).1, (xs[i]'(by omega)).2) from rfl, e3'] at hxi
    exact ints_of_array he he3 hC3 hC hxi
  clear hi hx1 hx hxl ht h
  have go : ∀ (l : List (Int × Int × Int)) (cs : List Value), cs.length = l.length * 3 → (∀ i (hin : i < l.length), (cs.drop (i * 3)).take 3 = nums .i32 [l[i].1, l[i].2.1, l[i].2.2]) → cs = cells3 l := by
    intro l
    induction l with
    | nil => intro cs h1 _; exact List.eq_nil_of_length_eq_zero (by simpa using h1)
    | cons x r ih =>
      intro cs h1 h2
      have h0 := h2 0 (by simp)
      have hr := ih (cs.drop 3) (by rw [List.length_drop, h1]; simp; omega) (fun i hin => by
        have := h2 (i + 1) (by simp; omega)
        rw [List.drop_drop, show 3 + i * 3 = (i + 1) * 3 by omega]
        exact this)
      rw [Nat.zero_mul, List.drop_zero] at h0
      rw [← List.take_append_drop 3 cs, h0, hr]
      rfl
  exact go l cs (by omega) key
abbrev laid : List (String × DataW Unit) := [("trema/ucd.classes", Rows.laid_trema_ucd_classes), ("trema/ucd.pairs", Rows.laid_trema_ucd_pairs), ("trema/ucd.marks", Rows.laid_trema_ucd_marks)]
theorem d0 : (Rows.laid_trema_ucd_classes : DataW Unit) = .agg (clsT.map fun x => .agg ([x.1, x.2.1, x.2.2].map fun y => .lit (.int .i32 y))) := by kernel_rfl
theorem d1 : (Rows.laid_trema_ucd_pairs : DataW Unit) = .agg (prsT.map fun x => .agg ([x.1, x.2.1, x.2.2].map fun y => .lit (.int .i32 y))) := by kernel_rfl
theorem d2 : (Rows.laid_trema_ucd_marks : DataW Unit) = .agg (mksT.map fun y => .lit (.int .i32 y)) := by kernel_rfl
theorem door_met (os : Os) (args : Array Value) : laidMetH Tryd.prog laid ((World.doorLaid Tryd.prog 400 os).forCall (fun _ _ => 0) ⟨#[], args, []⟩).memory :=
  laidMetH_of_parts3 (fuel := 8) (laidMet_of_run' 8 (by kernel_rfl) (by kernel_rfl)) (by kernel_rfl) (by kernel_rfl)
theorem of_laid {W : World} (h : laidMetH Tryd.prog laid W) : G W := by
  rw [MakeChecks.laidMetH_plain _ _ _ (by kernel_rfl)] at h
  obtain ⟨ps, ⟨g0, t0, cs0, f0, p0, q0, hg0, ht0, hv0, hd0, ⟨g1, t1, cs1, f1, p1, q1, hg1, ht1, hv1, hd1, ⟨g2, t2, cs2, f2, p2, q2, hg2, ht2, hv2, hd2, _, _⟩, _⟩, _⟩, _, _⟩ := h
  obtain rfl := Option.some.inj ((show Tryd.prog.globalNamed "trema/ucd.classes" = some 0 by kernel_rfl).symm.trans hg0)
  obtain rfl := Option.some.inj ((show Tryd.prog.globalNamed "trema/ucd.pairs" = some 1 by kernel_rfl).symm.trans hg1)
  obtain rfl := Option.some.inj ((show Tryd.prog.globalNamed "trema/ucd.marks" = some 2 by kernel_rfl).symm.trans hg2)
  obtain rfl := Option.some.inj ((show (Tryd.prog.globals[0]?).map (·.type) = some 100 by kernel_rfl).symm.trans ht0)
  obtain rfl := Option.some.inj ((show (Tryd.prog.globals[1]?).map (·.type) = some 106 by kernel_rfl).symm.trans ht1)
  obtain rfl := Option.some.inj ((show (Tryd.prog.globals[2]?).map (·.type) = some 114 by kernel_rfl).symm.trans ht2)
  rw [d0] at hd0
  rw [d1] at hd1
  rw [d2] at hd2
  have c0 := triples_of_array Tryd.underlying100 Tryd.underlying99 Tryd.underlying21 (by kernel_rfl) (by kernel_rfl) (by kernel_rfl) hd0
  have c1 := triples_of_array Tryd.underlying106 Tryd.underlying99 Tryd.underlying21 (by kernel_rfl) (by kernel_rfl) (by kernel_rfl) hd1
  have c2 := ints_of_array Tryd.underlying114 Tryd.underlying21 (by kernel_rfl) (by kernel_rfl) hd2
  refine ⟨fun j v hv => ?_, fun j v hv => ?_, fun j v hv => ?_⟩
  · have := World.var?_cell hg0 hv0 j
    rw [← Array.getElem?_toList, c0, hv] at this
    simpa using this
  · have := World.var?_cell hg1 hv1 j
    rw [← Array.getElem?_toList, c1, hv] at this
    simpa using this
  · have := World.var?_cell hg2 hv2 j
    rw [← Array.getElem?_toList, c2, hv] at this
    simpa using this
end Go.Proofs.YtiggjbclbdikmaaDoor.Lv
