/-
  Several texts of this claim in one: what its law's proof uses.
-/
import Derived.Test.YthffpkdadffinaaDoorMWC5
import Derived.Test.YthffpkdadffinaaDoorMWC2
import Derived.Test.YthffpkdadffinaaDoorMWC6
import Derived.Test.YthffpkdadffinaaDoorMWC8
import Derived.Test.YthffpkdadffinaaDoorMWC4
import Derived.Test.YthffpkdadffinaaDoorMWC10
import Derived.Deep.RegionHeld3
import Derived.Deep.DeepCutAuto
import Derived.BigQuiet
import Derived.Test.YthffpkdadffinaaDoorMWC11
import Derived.Test.YthffpkdadffinaaDoorMWC12
import Derived.Test.YthffpkdadffinaaDoorRows
import Derived.Test.YthffpkdadffinaaDoorMWC13
import Derived.Test.YthffpkdadffinaaDoorTie
import Derived.Test.YthffpkdadffinaaDoorCards
import Derived.WalkKit
import Derived.ProofKit
import Derived.OpenShut
import Derived.ShutString
import Derived.ChangeOld
import Derived.Below
import Derived.SizedLaws
import Derived.JoinedCond
import Derived.SevenTiedAt
import Derived.LaidMore
import Derived.Stop.Joined
import Derived.Deep.DeepHandedRow
import Derived.Deep.DeepWitnessRowRef
namespace Go.Proofs.YthffpkdadffinaaDoor.En
set_option linter.unusedVariables false
set_option linter.unusedSimpArgs false
open Go.RowKit Go.Proofs.YthffpkdadffinaaDoorW.PrintWords Go.Proofs.YthffpkdadffinaaDoor.Hp
theorem enc_len : ∀ l, l.length ≤ (enc l).length ∧ (enc l).length ≤ 4 * l.length
  | [] => by simp [enc]
  | r :: l => by
    have := enc_len l
    have h := encv_len (fixr r)
    simp only [enc, enc1, List.length_append, List.length_cons]
    omega
end Go.Proofs.YthffpkdadffinaaDoor.En
namespace Go.Proofs.YthffpkdadffinaaDoor.X
set_option linter.unusedVariables false
set_option linter.unusedSimpArgs false
open Go.RowKit Go.Proofs.YthffpkdadffinaaDoorW.PrintWords Go.Proofs.YthffpkdadffinaaDoorW.PrintLast Go.Proofs.YthffpkdadffinaaDoorW.PrintMore Go.Proofs.YthffpkdadffinaaDoor.Ux
def lenF (s : ByteArray) : Nat := (Ot.rns (bytesOf s)).length
end Go.Proofs.YthffpkdadffinaaDoor.X
namespace Go.Proofs.YthffpkdadffinaaDoor.Bk
set_option linter.unusedVariables false
set_option linter.unusedSimpArgs false
open Go.RowKit Go.Proofs.YthffpkdadffinaaDoorW.PrintWords Go.Proofs.YthffpkdadffinaaDoor.Hp Go.Proofs.YthffpkdadffinaaDoor.Ux Go.Proofs.YthffpkdadffinaaDoor.En Go.Proofs.YthffpkdadffinaaDoor.Rt Go.Proofs.YthffpkdadffinaaDoor.X
theorem full_ful (b : List Int) : full b = ful b 0 := rfl
end Go.Proofs.YthffpkdadffinaaDoor.Bk
namespace Go.Proofs.YthffpkdadffinaaDoor.Sgp
set_option linter.unusedVariables false
set_option linter.unusedSimpArgs false
open Go.Proofs.YthffpkdadffinaaDoor.Vd (decU)
open Go.Proofs.YthffpkdadffinaaDoor.Ve (opn)
open Go.Proofs.YthffpkdadffinaaDoor.Ux (Bytes one1 dc rest1 full dec)
open Go.Proofs.YthffpkdadffinaaDoor.En (enc fixr enc_byte enc_len)
open Go.RowKit Go.Proofs.YthffpkdadffinaaDoorW.PrintWords Go.Proofs.YthffpkdadffinaaDoor.Ev0 Go.Proofs.YthffpkdadffinaaDoor.X Go.Proofs.YthffpkdadffinaaDoor.Oa Go.Proofs.YthffpkdadffinaaDoor.Ob Go.Proofs.YthffpkdadffinaaDoor.Vp0 Go.Proofs.YthffpkdadffinaaDoor.Sga Go.Proofs.YthffpkdadffinaaDoor.Sgb Go.Proofs.YthffpkdadffinaaDoor.Sgc Go.Proofs.YthffpkdadffinaaDoor.Sgd
theorem lenF_txt (l : List Int) : lenF (txt l) = (nrm l).length := by
  unfold lenF txt Ot.rns
  rw [Ot.bytes_str _ (enc_byte _), Bk.full_ful]
  rw [Bk.ful_enc, List.length_map]
theorem flat_flat (l : List Int) (hl : ∀ x ∈ l, I32 x) : flat (flat l) = flat l := flat_id _ (fun y hy => (flat_bot l hl y hy).1)
theorem txt_flat (l : List Int) (hl : ∀ x ∈ l, I32 x) : txt (flat l) = txt l := by
  unfold txt nrm
  rw [flat_flat l hl]
def cutR : List SP → List Int → Int → Int → List SG
  | [], rs, a, e => [⟨txt rs, a, e⟩]
  | p :: t, rs, a, e => if opn p.f0 = true then ⟨txt rs, a, e⟩ :: cutR t [p.f0] p.f1 (p.f1 + p.f2) else cutR t (rs ++ [p.f0]) a (p.f1 + p.f2)
def cutS : List SP → List SG
  | [] => []
  | p :: t => cutR t [p.f0] p.f1 (p.f1 + p.f2)
def goodS (lim : Int) : List SG → List SG × Bool
  | [] => ([], false)
  | s :: l => if lim < (lenF s.f0 : Int) then ([], true) else (s :: (goodS lim l).1, (goodS lim l).2)
theorem long_first (lim : Int) : ∀ (t : List SP) (rs : List Int) (a e : Int), lim < ((flat rs).length : Int) → goodS lim (cutR t rs a e) = ([], true)
  | [], rs, a, e, h => by
    rw [cutR, goodS, if_pos (by rw [lenF_txt, nrm_len]; exact h)]
  | p :: t, rs, a, e, h => by
    rw [cutR]
    split
    · rw [goodS, if_pos (by rw [lenF_txt, nrm_len]; exact h)]
    · refine long_first lim t _ _ _ ?_
      rw [flat_app, List.length_append]
      omega
theorem tk_cut (lim : Int) : ∀ (t : List SP) (rs : List Int) (a e : Int), rs ≠ [] → (∀ x ∈ rs, I32 x) → (∀ p ∈ t, fine p) → ((flat rs).length : Int) ≤ lim →
    goodS lim (cutR t rs a e) = (fin (tk lim t (flat rs) a e), (tk lim t (flat rs) a e).2.2.2.2)
  | [], rs, a, e, hne, hrs, _, hl => by
    have h1 : (flat rs).isEmpty = false := by
      cases h : flat rs with
      | nil => exact absurd h (flat_ne rs hne)
      | cons x t => rfl
    rw [cutR, goodS, if_neg (by rw [lenF_txt, nrm_len]; omega), goodS]
    simp [tk, fin, h1, txt_flat rs hrs]
  | p :: t, rs, a, e, hne, hrs, hf, hl => by
    have h1 : (flat rs).isEmpty = false := by
      cases h : flat rs with
      | nil => exact absurd h (flat_ne rs hne)
      | cons x t => rfl
    have hp := hf p (List.mem_cons_self ..)
    have ht := fun q hq => hf q (List.mem_cons_of_mem _ hq)
    have hfl : flushB (flat rs) p.f0 = opn p.f0 := by unfold flushB; rw [h1]; rfl
    have e1 : flat [p.f0] = decU p.f0 := by simp [flat]
    rw [cutR, tk, hfl, txt_flat rs hrs]
    by_cases ho : opn p.f0 = true
    · rw [if_pos ho, if_pos ho, goodS, if_neg (by rw [lenF_txt, nrm_len]; omega)]
      by_cases hlm : lim < ((decU p.f0).length : Int)
      · rw [if_pos hlm, long_first lim t [p.f0] _ _ (by rw [e1]; exact hlm)]
        rfl
      · rw [if_neg hlm]
        have ih := tk_cut lim t [p.f0] p.f1 (p.f1 + p.f2) (by simp) (by intro x hx; rw [List.mem_singleton.1 hx]; exact hp.1) ht (by rw [e1]; omega)
        rw [e1] at ih
        rw [ih]
        have := fin_cat [⟨txt rs, a, e⟩] (tk lim t (decU p.f0) p.f1 (p.f1 + p.f2))
        unfold catT at this
        simp only [List.singleton_append] at this
        rw [this]
    · rw [if_neg ho, if_neg ho]
      have e2 : flat (rs ++ [p.f0]) = flat rs ++ decU p.f0 := by rw [flat_app, e1]
      by_cases hlm : lim < ((flat rs ++ decU p.f0).length : Int)
      · rw [if_pos hlm, long_first lim t _ _ _ (by rw [e2]; exact hlm)]
        rfl
      · rw [if_neg hlm]
        have ih := tk_cut lim t (rs ++ [p.f0]) a (p.f1 + p.f2) (by simp) (by intro x hx; rcases List.mem_append.1 hx with h | h; (· exact hrs x h); (· rw [List.mem_singleton.1 h]; exact hp.1)) ht (by rw [e2]; omega)
        rw [e2] at ih
        exact ih
theorem tk_cutS (lim : Int) (ps : List SP) (hf : ∀ p ∈ ps, fine p) (h0 : ∀ p t, ps = p :: t → p.f1 = 0) :
    goodS lim (cutS ps) = (fin (tk lim ps [] 0 0), (tk lim ps [] 0 0).2.2.2.2) := by
  cases ps with
  | nil => rfl
  | cons p t =>
    have hp := hf p (List.mem_cons_self ..)
    have ht := fun q hq => hf q (List.mem_cons_of_mem _ hq)
    have hz := h0 p t rfl
    have e1 : flat [p.f0] = decU p.f0 := by simp [flat]
    rw [cutS, tk, show flushB [] p.f0 = false from rfl, if_neg (by decide), List.nil_append]
    by_cases hlm : lim < ((decU p.f0).length : Int)
    · rw [if_pos hlm, long_first lim t _ _ _ (by rw [e1]; exact hlm)]
      rfl
    · rw [if_neg hlm]
      have ih := tk_cut lim t [p.f0] p.f1 (p.f1 + p.f2) (by simp) (by intro x hx; rw [List.mem_singleton.1 hx]; exact hp.1) ht (by rw [e1]; omega)
      rw [e1] at ih
      rw [ih, hz]
theorem full_fine (b : List Int) (hB : Bytes b) (hl : b.length ≤ 100000000) : ∀ p ∈ full b, fine p := by
  have hdl := Ux.dc_len b 0
  intro p hp
  rcases List.mem_append.1 hp with h | h
  · exact dec_fine b.length b 0 hB (Int.le_refl _) (by omega) p h
  · exact rest_fine _ _ (by omega) (by omega) p h
theorem full_at0 (b : List Int) : ∀ p t, full b = p :: t → p.f1 = 0 := by
  intro p t h
  cases b with
  | nil => cases h
  | cons c r =>
    rw [Bk.full_ful, Bk.ful_cons] at h
    rw [← (List.cons.inj h).1]
theorem split_cut (lim : Int) (b : List Int) (hB : Bytes b) (hl : b.length ≤ 100000000) (h1 : 1 ≤ lim) (h2 : lim ≤ 64) : splitF lim b = ((goodS lim (cutS (full b))).1, errOf (goodS lim (cutS (full b))).2) := by
  rw [tk_cutS lim (full b) (full_fine b hB hl) (full_at0 b)]
  exact if_neg (by omega)
end Go.Proofs.YthffpkdadffinaaDoor.Sgp
namespace Go.Proofs.YthffpkdadffinaaDoor.Sgq
set_option linter.unusedVariables false
set_option linter.unusedSimpArgs false
open Go.Proofs.YthffpkdadffinaaDoor.Vd (decU)
open Go.Proofs.YthffpkdadffinaaDoor.Ve (opn)
open Go.Proofs.YthffpkdadffinaaDoor.Ux (Bytes one1 dc rest1 full dec)
open Go.Proofs.YthffpkdadffinaaDoor.En (enc fixr enc_byte enc_len)
open Go.RowKit Go.Proofs.YthffpkdadffinaaDoorW.PrintWords Go.Proofs.YthffpkdadffinaaDoor.Ev0 Go.Proofs.YthffpkdadffinaaDoor.X Go.Proofs.YthffpkdadffinaaDoor.Oa Go.Proofs.YthffpkdadffinaaDoor.Ob Go.Proofs.YthffpkdadffinaaDoor.Vp0 Go.Proofs.YthffpkdadffinaaDoor.Vu Go.Proofs.YthffpkdadffinaaDoor.Sga Go.Proofs.YthffpkdadffinaaDoor.Sgb Go.Proofs.YthffpkdadffinaaDoor.Sgc Go.Proofs.YthffpkdadffinaaDoor.Sgd Go.Proofs.YthffpkdadffinaaDoor.Sgp
theorem txt_size (rs : List Int) (h1 : ∀ x ∈ rs, I32 x) : (txt rs).size ≤ 12 * rs.length := by
  have := nrm_len3 rs h1
  have h := (enc_len (nrm rs)).2
  have e1 : (txt rs).size = (enc (nrm rs)).length := by unfold txt; rw [← bytesOf_length, Ot.bytes_str _ (enc_byte _)]
  rw [e1]
  omega
theorem cutR_size : ∀ (t : List SP) (rs : List Int) (a e : Int), (∀ x ∈ rs, I32 x) → (∀ p ∈ t, fine p) → rs.length + t.length ≤ 80000000 → (∀ s ∈ cutR t rs a e, s.f0.size ≤ 1000000000) ∧ (cutR t rs a e).length ≤ t.length + 1
  | [], rs, a, e, h1, _, h3 => by
    refine ⟨fun s hs => ?_, by simp [cutR]⟩
    rw [cutR, List.mem_singleton] at hs
    rw [hs]
    have h0 := txt_size rs h1
    simp only [List.length_nil] at h3
    show (txt rs).size ≤ _
    omega
  | p :: t, rs, a, e, h1, h2, h3 => by
    have hp := h2 p (List.mem_cons_self ..)
    have ht := fun q hq => h2 q (List.mem_cons_of_mem _ hq)
    rw [List.length_cons] at h3
    rw [cutR]
    split
    · have ih := cutR_size t [p.f0] p.f1 (p.f1 + p.f2) (by intro x hx; rw [List.mem_singleton.1 hx]; exact hp.1) ht (by simp; omega)
      have h0 := txt_size rs h1
      refine ⟨fun s hs => ?_, by simp only [List.length_cons]; omega⟩
      rcases List.mem_cons.1 hs with rfl | hs
      · show (txt rs).size ≤ _
        omega
      · exact ih.1 s hs
    · have ih := cutR_size t (rs ++ [p.f0]) a (p.f1 + p.f2) (by intro x hx; rcases List.mem_append.1 hx with h | h; (· exact h1 x h); (· rw [List.mem_singleton.1 h]; exact hp.1)) ht (by rw [List.length_append, List.length_singleton]; omega)
      exact ⟨ih.1, by simp only [List.length_cons]; omega⟩
theorem cutS_size (ps : List SP) (hf : ∀ p ∈ ps, fine p) (hl : ps.length ≤ 80000000) : (∀ s ∈ cutS ps, s.f0.size ≤ 1000000000) ∧ (cutS ps).length ≤ ps.length := by
  cases ps with
  | nil => exact ⟨by simp [cutS], by simp [cutS]⟩
  | cons p t =>
    have hp := hf p (List.mem_cons_self ..)
    rw [List.length_cons] at hl ⊢
    exact cutR_size t [p.f0] p.f1 (p.f1 + p.f2) (by intro x hx; rw [List.mem_singleton.1 hx]; exact hp.1) (fun q hq => hf q (List.mem_cons_of_mem _ hq)) (by simp; omega)
end Go.Proofs.YthffpkdadffinaaDoor.Sgq
namespace Go.Proofs.YthffpkdadffinaaDoor.Sgr
set_option linter.unusedVariables false
set_option linter.unusedSimpArgs false
open Go.Proofs.YthffpkdadffinaaDoor.Ux (Bytes one1 dc rest1 full dec)
open Go.RowKit Go.Proofs.YthffpkdadffinaaDoorW.PrintWords Go.Proofs.YthffpkdadffinaaDoor.Ev0 Go.Proofs.YthffpkdadffinaaDoor.X Go.Proofs.YthffpkdadffinaaDoor.Oa Go.Proofs.YthffpkdadffinaaDoor.Ob Go.Proofs.YthffpkdadffinaaDoor.Vp0 Go.Proofs.YthffpkdadffinaaDoor.Vu Go.Proofs.YthffpkdadffinaaDoor.Sga Go.Proofs.YthffpkdadffinaaDoor.Sgb Go.Proofs.YthffpkdadffinaaDoor.Sgc Go.Proofs.YthffpkdadffinaaDoor.Sgd Go.Proofs.YthffpkdadffinaaDoor.Sgp Go.Proofs.YthffpkdadffinaaDoor.Sgq
theorem fsize (b : List Int) (hB : Bytes b) (hl : b.length ≤ 10000000) : (∀ s ∈ cutS (full b), s.f0.size ≤ 1000000000) ∧ (cutS (full b)).length ≤ b.length := by
  have hfl := Ud.full_len b
  have h := cutS_size (full b) (full_fine b hB (by omega)) (by omega)
  exact ⟨h.1, by omega⟩
end Go.Proofs.YthffpkdadffinaaDoor.Sgr
namespace Go.Proofs.YthffpkdadffinaaDoor.Sgt
set_option linter.unusedVariables false
set_option linter.unusedSimpArgs false
open Go.Proofs.YthffpkdadffinaaDoor.Ux (Bytes one1 bnd st cont dc dc_cons dc_nil dc_ind dc_rest dc_len rest1 full dec one1_width bnd_len one1_more)
open Go.Proofs.YthffpkdadffinaaDoor.Ve (opn)
open Go.Proofs.YthffpkdadffinaaDoor.Bk (ful ful_nil ful_cons full_ful)
open Go.Proofs.YthffpkdadffinaaDoor.En (enc enc_len enc_byte)
open Go.Proofs.YthffpkdadffinaaDoor.Ot (rns)
open Go.RowKit Go.Proofs.YthffpkdadffinaaDoorW.PrintWords Go.Proofs.YthffpkdadffinaaDoor.Ev0 Go.Proofs.YthffpkdadffinaaDoor.X Go.Proofs.YthffpkdadffinaaDoor.Oa Go.Proofs.YthffpkdadffinaaDoor.Ob Go.Proofs.YthffpkdadffinaaDoor.Vp0 Go.Proofs.YthffpkdadffinaaDoor.Vu Go.Proofs.YthffpkdadffinaaDoor.Sga Go.Proofs.YthffpkdadffinaaDoor.Sgb Go.Proofs.YthffpkdadffinaaDoor.Sgc Go.Proofs.YthffpkdadffinaaDoor.Sgd Go.Proofs.YthffpkdadffinaaDoor.Sgp Go.Proofs.YthffpkdadffinaaDoor.Sgq Go.Proofs.YthffpkdadffinaaDoor.Sgr
theorem cont_take : ∀ (bs : List (Int × Int)) (t : List Int) (r i : Int) (m : Nat), (cont bs t r i).2.1 ≤ i + m → (cont bs (t.take m) r i).1 = (cont bs t r i).1 ∧ (cont bs (t.take m) r i).2.1 = (cont bs t r i).2.1
  | [], t, r, i, m, h => by simp [cont]
  | _ :: _, [], r, i, m, h => by simp [cont]
  | (lo, hi) :: bs, x :: t, r, i, m, h => by
    simp only [cont] at h ⊢
    split at h
    · rename_i hx
      rw [if_pos hx]
      cases m with
      | zero => simp [cont]
      | succ m => simp only [List.take_succ_cons, cont, if_pos hx]; exact ⟨trivial, trivial⟩
    · rename_i hx
      rw [if_neg hx]
      have hw := (Ux.cont_width bs t (r * 64 + x % 64) (i + 1)).1
      cases m with
      | zero => omega
      | succ m =>
        simp only [List.take_succ_cons, cont, if_neg hx]
        exact cont_take bs t _ _ m (by omega)
theorem one1_take (c : Int) (t : List Int) (m : Nat) (h : (one1 c t).2.1 ≤ 1 + m) : (one1 c (t.take m)).1 = (one1 c t).1 ∧ (one1 c (t.take m)).2.1 = (one1 c t).2.1 := by
  unfold one1 at h ⊢
  cases hb : bnd c with
  | none => exact ⟨rfl, rfl⟩
  | some bs =>
    rw [hb] at h
    exact cont_take bs t _ _ m h
theorem inv_self (b : List Int) (a : Nat) : Inv b a a [] := fun m _ => by simp
theorem inv_step {b : List Int} {a e : Nat} {rs : List Int} (h : Inv b a e rs) (c : Int) (t : List Int) (hd : b.drop e = c :: t) : Inv b a (e + (one1 c t).2.1.toNat) (rs ++ [(one1 c t).1]) := by
  intro m hm
  have hw := one1_width c t
  obtain ⟨w, hwe⟩ : ∃ w : Nat, (one1 c t).2.1 = (w : Int) := ⟨(one1 c t).2.1.toNat, by omega⟩
  rw [hwe, Int.toNat_natCast] at hm ⊢
  rw [h m (by omega), List.append_assoc]
  congr 1
  have e1 : (b.take m).drop e = c :: t.take (m - e - 1) := by
    rw [List.drop_take, hd, show m - e = (m - e - 1) + 1 by omega, List.take_succ_cons]
    rfl
  have h1 := one1_take c t (m - e - 1) (by omega)
  rw [e1, rns_cons, h1.1, h1.2, hwe, Int.toNat_natCast, ← e1, List.drop_drop]
  rfl
theorem rns_inv {b : List Int} {a e : Nat} {rs : List Int} (h : Inv b a e rs) : rns ((b.take e).drop a) = rs := by
  rw [h e (Nat.le_refl _), List.drop_eq_nil_of_le (by rw [List.length_take]; omega), rns_nil, List.append_nil]
theorem cutR_txt : ∀ (t : List SP) (rs : List Int) (a e : Int), (cutR t rs a e).map (·.f0) = cutT (t.map (·.f0)) rs
  | [], rs, a, e => rfl
  | p :: t, rs, a, e => by
    rw [cutR, List.map_cons, cutT]
    split
    · rw [List.map_cons, cutR_txt t]
    · rw [cutR_txt t]
end Go.Proofs.YthffpkdadffinaaDoor.Sgt
namespace Go.Proofs.YthffpkdadffinaaDoor.Sgv
set_option linter.unusedVariables false
set_option linter.unusedSimpArgs false
open Go.Proofs.YthffpkdadffinaaDoor.Ux (Bytes full)
open Go.Proofs.YthffpkdadffinaaDoor.Ve (opn)
open Go.Proofs.YthffpkdadffinaaDoor.Ot (rns)
open Go.Proofs.YthffpkdadffinaaDoor.En (enc enc_len enc_byte enc_append)
open Go.RowKit Go.Proofs.YthffpkdadffinaaDoorW.PrintWords Go.Proofs.YthffpkdadffinaaDoor.Ev0 Go.Proofs.YthffpkdadffinaaDoor.X Go.Proofs.YthffpkdadffinaaDoor.Oa Go.Proofs.YthffpkdadffinaaDoor.Ob Go.Proofs.YthffpkdadffinaaDoor.Vp0 Go.Proofs.YthffpkdadffinaaDoor.Vu Go.Proofs.YthffpkdadffinaaDoor.Sga Go.Proofs.YthffpkdadffinaaDoor.Sgb Go.Proofs.YthffpkdadffinaaDoor.Sgd Go.Proofs.YthffpkdadffinaaDoor.Sgp Go.Proofs.YthffpkdadffinaaDoor.Sgq Go.Proofs.YthffpkdadffinaaDoor.Sgt Go.Proofs.YthffpkdadffinaaDoor.Sgu
theorem rns_pos (b : List Int) (h : 0 < b.length) : 0 < (rns b).length := by
  cases b with
  | nil => simp at h
  | cons c t => rw [rns_cons]; simp
end Go.Proofs.YthffpkdadffinaaDoor.Sgv
namespace Go.Proofs.YthffpkdadffinaaDoor.Sgw
set_option linter.unusedVariables false
set_option linter.unusedSimpArgs false
open Go.Proofs.YthffpkdadffinaaDoor.Ux (Bytes full one1)
open Go.Proofs.YthffpkdadffinaaDoor.Ve (opn)
open Go.Proofs.YthffpkdadffinaaDoor.Vd (decU keys cases3)
open Go.Proofs.YthffpkdadffinaaDoor.Na (ordL ordL_mem ordL_starter)
open Go.Proofs.YthffpkdadffinaaDoor.Ot (rns)
open Go.Proofs.YthffpkdadffinaaDoor.En (enc enc_len enc_byte enc_append vld fixr)
open Go.RowKit Go.Proofs.YthffpkdadffinaaDoorW.PrintWords Go.Proofs.YthffpkdadffinaaDoor.Ev0 Go.Proofs.YthffpkdadffinaaDoor.X Go.Proofs.YthffpkdadffinaaDoor.Va Go.Proofs.YthffpkdadffinaaDoor.Oa Go.Proofs.YthffpkdadffinaaDoor.Ob Go.Proofs.YthffpkdadffinaaDoor.Vp0 Go.Proofs.YthffpkdadffinaaDoor.Vu Go.Proofs.YthffpkdadffinaaDoor.Sga Go.Proofs.YthffpkdadffinaaDoor.Sgb Go.Proofs.YthffpkdadffinaaDoor.Sgd Go.Proofs.YthffpkdadffinaaDoor.Sgp Go.Proofs.YthffpkdadffinaaDoor.Sgq Go.Proofs.YthffpkdadffinaaDoor.Sgt Go.Proofs.YthffpkdadffinaaDoor.Sgu Go.Proofs.YthffpkdadffinaaDoor.Sgv
def nfd (a : List Int) : List Int := enc (nrm (rns a))
theorem nfd_rns (a : List Int) (ha : Bytes a) : rns (nfd a) = nrm (rns a) := rns_enc _ (vld_nrm _ (vld_rns a.length a (Nat.le_refl _) ha))
theorem nfd_len (a : List Int) (ha : Bytes a) : (nfd a).length ≤ 12 * a.length := by
  have h1 := nrm_len3 (rns a) (Ot.runes32 a ha)
  have h2 := rns_len a
  have h3 := (enc_len (nrm (rns a))).2
  unfold nfd
  omega
theorem nfd_byte (a : List Int) : Bytes (nfd a) := enc_byte _
end Go.Proofs.YthffpkdadffinaaDoor.Sgw
namespace Go.Proofs.YthffpkdadffinaaDoor.Wa0
set_option linter.unusedVariables false
set_option linter.unusedSimpArgs false
open Go.Proofs.YthffpkdadffinaaDoor.Ux (Bytes full)
open Go.Proofs.YthffpkdadffinaaDoor.Ve (opn)
open Go.Proofs.YthffpkdadffinaaDoor.Vd (decU)
open Go.Proofs.YthffpkdadffinaaDoor.Vef (foldU allB allB_at fold_out)
open Go.Proofs.YthffpkdadffinaaDoor.Vp (fold_len)
open Go.Proofs.YthffpkdadffinaaDoor.Vf (fold_range)
open Go.Proofs.YthffpkdadffinaaDoor.Ot (rns)
open Go.Proofs.YthffpkdadffinaaDoor.En (vld enc enc_len enc_byte enc_append)
open Go.RowKit Go.Proofs.YthffpkdadffinaaDoorW.PrintWords Go.Proofs.YthffpkdadffinaaDoor.Ev0 Go.Proofs.YthffpkdadffinaaDoor.X Go.Proofs.YthffpkdadffinaaDoor.Oa Go.Proofs.YthffpkdadffinaaDoor.Vp0 Go.Proofs.YthffpkdadffinaaDoor.Sga Go.Proofs.YthffpkdadffinaaDoor.Sgp Go.Proofs.YthffpkdadffinaaDoor.Sgt Go.Proofs.YthffpkdadffinaaDoor.Sgv Go.Proofs.YthffpkdadffinaaDoor.Sgw Go.Proofs.YthffpkdadffinaaDoor.Sgu
theorem fold_far (z : Int) (h : z < 65 ∨ 8492 ≤ z) : foldU z = [z] := by unfold foldU; rw [fold_out z h]; rfl
theorem foldN_1 : allB (fun z => !(foldU z).isEmpty) 13 0 = true := by decide +kernel
theorem foldN_2 : allB (fun z => !(foldU z).isEmpty) 9 8192 = true := by decide +kernel
theorem fold_ne (z : Int) : foldU z ≠ [] := by
  by_cases h : z < 65 ∨ 8492 ≤ z
  · rw [fold_far z h]; simp
  · have h1 : (!(foldU z).isEmpty) = true := by
      by_cases h2 : z < 8192
      · exact allB_at _ 13 0 foldN_1 z (by omega) (by omega)
      · exact allB_at _ 9 8192 foldN_2 z (by omega) (by omega)
    intro e
    rw [e] at h1
    cases h1
end Go.Proofs.YthffpkdadffinaaDoor.Wa0
namespace Go.Proofs.YthffpkdadffinaaDoor.Wa
set_option linter.unusedVariables false
set_option linter.unusedSimpArgs false
open Go.Proofs.YthffpkdadffinaaDoor.Ux (Bytes full)
open Go.Proofs.YthffpkdadffinaaDoor.Ve (opn)
open Go.Proofs.YthffpkdadffinaaDoor.Vd (decU)
open Go.Proofs.YthffpkdadffinaaDoor.Vef (foldU allB allB_at fold_out)
open Go.Proofs.YthffpkdadffinaaDoor.Vp (fold_len)
open Go.Proofs.YthffpkdadffinaaDoor.Vf (fold_range)
open Go.Proofs.YthffpkdadffinaaDoor.Ot (rns)
open Go.Proofs.YthffpkdadffinaaDoor.En (vld enc enc_len enc_byte enc_append)
open Go.Proofs.YthffpkdadffinaaDoor.Na (ordL_mem ordL)
open Go.Proofs.YthffpkdadffinaaDoor.Wa0
open Go.RowKit Go.Proofs.YthffpkdadffinaaDoorW.PrintWords Go.Proofs.YthffpkdadffinaaDoor.Ev0 Go.Proofs.YthffpkdadffinaaDoor.X Go.Proofs.YthffpkdadffinaaDoor.Oa Go.Proofs.YthffpkdadffinaaDoor.Vp0 Go.Proofs.YthffpkdadffinaaDoor.Sga Go.Proofs.YthffpkdadffinaaDoor.Sgp Go.Proofs.YthffpkdadffinaaDoor.Sgt Go.Proofs.YthffpkdadffinaaDoor.Sgv Go.Proofs.YthffpkdadffinaaDoor.Sgw Go.Proofs.YthffpkdadffinaaDoor.Sgu
theorem fl2_ne (l : List Int) (h : l ≠ []) : fl2 l ≠ [] := by
  cases l with
  | nil => exact absurd rfl h
  | cons x t =>
    unfold fl2
    rw [List.flatMap_cons]
    intro e
    exact fold_ne x (List.append_eq_nil_iff.1 e).1
theorem keyU_nrm (l : List Int) (h : ∀ x ∈ l, I32 x) : keyU (nrm l) = keyU l := by unfold keyU; rw [nrm_id l h]
theorem keyU_ne (l : List Int) (h : l ≠ []) : keyU l ≠ [] := by
  have ne : ∀ r : List Int, r ≠ [] → nrm r ≠ [] := fun r hr e => flat_ne r hr (List.length_eq_zero_iff.1 (by rw [← nrm_len, e]; rfl))
  exact ne _ (fl2_ne _ (ne _ h))
theorem keyB_byte (b : List Int) : Bytes (keyB b) := enc_byte _
theorem keyS_nfd (b : List Int) (hB : Bytes b) : keyS (nfd b) = keyS b := by
  have e : keyB (nfd b) = enc (keyU (rns (nfd b))) := rfl
  unfold keyS
  rw [e, nfd_rns b hB, keyU_nrm _ (r32 b hB)]
  rfl
theorem txt_nfd (b : List Int) : txt (rns b) = strOfNums (nfd b) := rfl
theorem bytes_txt (r : List Int) : bytesOf (txt r) = enc (nrm r) := Ot.bytes_str _ (enc_byte _)
theorem keyS_txt (b : List Int) (hB : Bytes b) : keyS (bytesOf (txt (rns b))) = keyS b := by rw [bytes_txt]; exact keyS_nfd b hB
theorem keyS_pos (b : List Int) (h : 0 < b.length) : 0 < (keyS b).size := by
  unfold keyS
  rw [str_size (keyB_byte b)]
  have h1 := rns_pos b h
  have h2 := (enc_len (keyU (rns b))).1
  have h3 := List.length_pos_iff.2 (keyU_ne (rns b) (List.length_pos_iff.1 h1))
  unfold keyB
  omega
end Go.Proofs.YthffpkdadffinaaDoor.Wa
namespace Go.Proofs.YthffpkdadffinaaDoor.Wb
set_option linter.unusedVariables false
set_option linter.unusedSimpArgs false
open Go.Proofs.YthffpkdadffinaaDoor.Ux (Bytes full)
open Go.Proofs.YthffpkdadffinaaDoor.Ve (opn)
open Go.Proofs.YthffpkdadffinaaDoor.Vb (cat)
open Go.Proofs.YthffpkdadffinaaDoor.Ot (rns)
open Go.RowKit Go.Proofs.YthffpkdadffinaaDoorW.PrintWords Go.Proofs.YthffpkdadffinaaDoor.X Go.Proofs.YthffpkdadffinaaDoor.Vp0 Go.Proofs.YthffpkdadffinaaDoor.Sga Go.Proofs.YthffpkdadffinaaDoor.Sgb Go.Proofs.YthffpkdadffinaaDoor.Sgp Go.Proofs.YthffpkdadffinaaDoor.Sgt Go.Proofs.YthffpkdadffinaaDoor.Sgv Go.Proofs.YthffpkdadffinaaDoor.Sgw Go.Proofs.YthffpkdadffinaaDoor.Wa
theorem Apart.low {N : Nat} {n m : Nat} {l : List (Nat × Nat)} (h : Apart N n l) (hm : m ≤ n) : Apart N m l := by
  cases l with
  | nil => trivial
  | cons p r => exact ⟨Nat.le_trans hm h.1, h.2⟩
theorem runs_apart (fl : Nat → Bool) : ∀ (q i : Nat), Apart (i + q) i (runs fl q i none) ∧ ∀ f, f < i → Apart (i + q) f (runs fl q i (some f))
  | 0, i => ⟨trivial, fun f h => ⟨Nat.le_refl _, h, Nat.le_refl _, trivial⟩⟩
  | q + 1, i => by
    have ih := runs_apart fl q (i + 1)
    rw [show i + 1 + q = i + (q + 1) by omega] at ih
    constructor
    · rw [runs]
      split
      · exact ih.2 i (Nat.lt_succ_self _)
      · exact ih.1.low (Nat.le_succ _)
    · intro f hf
      rw [runs]
      split
      · exact ih.2 f (Nat.lt_succ_of_lt hf)
      · exact ⟨Nat.le_refl _, hf, by omega, ih.1⟩
theorem runsT_apart (l : List ByteArray) : Apart l.length 0 (runsT l) := by
  have h := (runs_apart (inW l) l.length 0).1
  rw [Nat.zero_add] at h
  exact h
theorem fillO_cut (b : List Int) : ∀ (t : List SP) (rs : List Int) (a e : Nat) (o : Bool), a < e → e ≤ b.length → Inv b a e rs → (o = true → ∃ x u, rs = x :: u ∧ opn x = true) → Bk.ful (b.drop e) (e : Int) = t → FillO b a o (cutR t rs a e)
  | [], rs, a, e, o, hae, hel, hi, ho, ht => by
    rw [cutR]
    exact ⟨rfl, e, rs, rfl, hae, hel, rfl, hi, ho, hel⟩
  | p :: t, rs, a, e, o, hae, hel, hi, ho, ht => by
    cases hd : b.drop e with
    | nil => rw [hd, Bk.ful_nil] at ht; cases ht
    | cons c u =>
      rw [hd, Bk.ful_cons] at ht
      have hw := Ux.one1_width c u
      have hul : (b.drop e).length = 1 + u.length := by rw [hd, List.length_cons]; omega
      rw [List.length_drop] at hul
      have hst := inv_step hi c u hd
      have hst0 := inv_step (inv_self b e) c u hd
      obtain ⟨w, hwe⟩ : ∃ w : Nat, (Ux.one1 c u).2.1 = (w : Int) := ⟨(Ux.one1 c u).2.1.toNat, by omega⟩
      rw [hwe, Int.toNat_natCast] at hst hst0
      have ht1 := (List.cons.inj ht).1
      have ht2 := (List.cons.inj ht).2
      rw [hwe, Int.toNat_natCast, ← hd, List.drop_drop] at ht2
      have p0 : p.f0 = (Ux.one1 c u).1 := by rw [← ht1]
      have p1 : p.f1 = (e : Int) := by rw [← ht1]
      have p2 : p.f2 = (w : Int) := by rw [← ht1, hwe]
      have e2 : p.f1 + p.f2 = ((e + w : Nat) : Int) := by rw [p1, p2]; push_cast; rfl
      rw [cutR, e2, p1]
      rw [← p0] at hst hst0
      have ih := fun rs a o hae hi ho => fillO_cut b t rs a (e + w) o hae (by omega) hi ho (by rw [← ht2]; push_cast; rfl)
      split
      · rename_i hop
        exact ⟨rfl, e, rs, rfl, hae, hel, rfl, hi, ho, ih [p.f0] e true (by omega) hst0 (fun _ => ⟨_, [], rfl, hop⟩)⟩
      · refine ih (rs ++ [p.f0]) a o (by omega) hst (fun h => ?_)
        obtain ⟨x, v, rfl, hx⟩ := ho h
        exact ⟨x, v ++ [p.f0], rfl, hx⟩
theorem fillO_all (b : List Int) : FillO b 0 false (cutS (full b)) := by
  cases b with
  | nil => rw [Bk.full_ful, Bk.ful_nil]; exact Nat.le_refl _
  | cons c t =>
    have hw := Ux.one1_width c t
    rw [Bk.full_ful, Bk.ful_cons, cutS]
    obtain ⟨w, hwe⟩ : ∃ w : Nat, (Ux.one1 c t).2.1 = (w : Int) := ⟨(Ux.one1 c t).2.1.toNat, by omega⟩
    have hst := inv_step (inv_self (c :: t) 0) c t (by simp)
    rw [hwe, Int.toNat_natCast] at hst
    simp only [hwe, Int.toNat_natCast, List.nil_append, Nat.zero_add, Int.zero_add] at hst ⊢
    exact fillO_cut (c :: t) _ [(Ux.one1 c t).1] 0 w false (by omega) (by simp only [List.length_cons]; omega) hst (fun h => by cases h) rfl
theorem run_raw {b : List Int} {l : List SG} (h : FillO b 0 false l) (f t : Nat) (hft : f < t) (ht : t ≤ l.length) :
    ∃ (s e : Nat), l[f].f1 = s ∧ (l[t - 1]'(by omega)).f2 = e ∧ s < e ∧ e ≤ b.length ∧ catR (l.map (·.f0)) f t = txt (rns ((b.take e).drop s)) := by
  obtain ⟨c, p, q1, q2, q3⟩ := h.at f (by omega)
  obtain ⟨e, rs, p1, p2, p3, p4, p5, p6, p7⟩ := q3.range (t - f - 1) (by rw [List.length_drop]; omega)
  refine ⟨c, e, q1, ?_, p2, p3, ?_⟩
  · rw [List.getElem_drop] at p1
    have : f + (t - f - 1) = t - 1 := by omega
    simp only [this] at p1
    exact p1
  · rw [rns_inv p5, ← p4]
    unfold catR
    rw [← List.map_take, ← List.map_drop, List.drop_take]
    congr 3
    omega
theorem runs_gap {b : List Int} {l : List SG} (h : FillO b 0 false l) (t f : Nat) (ht : 0 < t) (htf : t < f) (hf : f < l.length) : (l[t - 1]'(by omega)).f2 < l[f].f1 := by
  obtain ⟨e, rs, p1, p2, p3, p4, p5, p6, p7⟩ := h.range (t - 1) (by omega)
  rw [show t - 1 + 1 = t by omega] at p7
  obtain ⟨c, p, q1, q2, q3⟩ := p7.at (f - t) (by rw [List.length_drop]; omega)
  obtain ⟨e2, rs2, r1, r2, r3, r4, r5, r6, r7⟩ := p7.range (f - t - 1) (by rw [List.length_drop]; omega)
  rw [show f - t - 1 + 1 = f - t by omega] at r7
  obtain ⟨c2, p', s1, s2, s3⟩ := r7.at 0 (by rw [List.length_drop, List.length_drop]; omega)
  rw [List.getElem_drop, List.getElem_drop] at s1
  have e3 : t + (f - t + 0) = f := by omega
  simp only [e3] at s1
  rw [p1, s1]
  omega
theorem keyR_raw {b : List Int} (hB : Bytes b) {l : List SG} (h : FillO b 0 false l) (f t : Nat) (hft : f < t) (ht : t ≤ l.length) :
    ∃ (s e : Nat), l[f].f1 = s ∧ (l[t - 1]'(by omega)).f2 = e ∧ s < e ∧ e ≤ b.length ∧ keyR (l.map (·.f0)) f t = keyS ((b.take e).drop s) ∧ 0 < (keyR (l.map (·.f0)) f t).size := by
  obtain ⟨s, e, h1, h2, h3, h4, h5⟩ := run_raw h f t hft ht
  have hBs : Bytes ((b.take e).drop s) := fun x hx => hB x (List.mem_of_mem_take (List.mem_of_mem_drop hx))
  have hk : keyR (l.map (·.f0)) f t = keyS ((b.take e).drop s) := by unfold keyR; rw [h5]; exact keyS_txt _ hBs
  refine ⟨s, e, h1, h2, h3, h4, hk, ?_⟩
  rw [hk]
  exact keyS_pos _ (by rw [List.length_drop, List.length_take]; omega)
end Go.Proofs.YthffpkdadffinaaDoor.Wb
namespace Go.Proofs.YthffpkdadffinaaDoor.Sgz
set_option linter.unusedVariables false
set_option linter.unusedSimpArgs false
open Go.Proofs.YthffpkdadffinaaDoor.Ux (Bytes full dc)
open Go.Proofs.YthffpkdadffinaaDoor.Ot (rns)
open Go.RowKit Go.Proofs.YthffpkdadffinaaDoorW.PrintWords Go.Proofs.YthffpkdadffinaaDoor.Hp Go.Proofs.YthffpkdadffinaaDoor.Fm Go.Proofs.YthffpkdadffinaaDoor.Ev0 Go.Proofs.YthffpkdadffinaaDoor.X Go.Proofs.YthffpkdadffinaaDoor.Va Go.Proofs.YthffpkdadffinaaDoor.Oa Go.Proofs.YthffpkdadffinaaDoor.Vp0 Go.Proofs.YthffpkdadffinaaDoor.Sga Go.Proofs.YthffpkdadffinaaDoor.Sgb Go.Proofs.YthffpkdadffinaaDoor.Sgd Go.Proofs.YthffpkdadffinaaDoor.Sgp Go.Proofs.YthffpkdadffinaaDoor.Sgq Go.Proofs.YthffpkdadffinaaDoor.Sgt Go.Proofs.YthffpkdadffinaaDoor.Sgu Go.Proofs.YthffpkdadffinaaDoor.Sgv
theorem good_take (lim : Int) : ∀ l : List SG, (goodS lim l).1 = l.take (goodS lim l).1.length ∧ (goodS lim l).1.length ≤ l.length
  | [] => by simp [goodS]
  | s :: l => by
    have ih := good_take lim l
    rw [goodS]
    split
    · simp
    · refine ⟨?_, by simp only [List.length_cons]; omega⟩
      show s :: (goodS lim l).1 = (s :: l).take ((goodS lim l).1.length + 1)
      rw [List.take_succ_cons, ← ih.1]
end Go.Proofs.YthffpkdadffinaaDoor.Sgz
namespace Go.Proofs.YthffpkdadffinaaDoor.Wt
set_option linter.unusedVariables false
set_option linter.unusedSimpArgs false
open Go.Proofs.YthffpkdadffinaaDoor.Ux (Bytes full)
open Go.Proofs.YthffpkdadffinaaDoor.Ot (rns)
open Go.RowKit Go.Proofs.YthffpkdadffinaaDoorW.PrintWords Go.Proofs.YthffpkdadffinaaDoor.Ev0 Go.Proofs.YthffpkdadffinaaDoor.X Go.Proofs.YthffpkdadffinaaDoor.Oa Go.Proofs.YthffpkdadffinaaDoor.Ob Go.Proofs.YthffpkdadffinaaDoor.Vp0 Go.Proofs.YthffpkdadffinaaDoor.Sga Go.Proofs.YthffpkdadffinaaDoor.Sgb Go.Proofs.YthffpkdadffinaaDoor.Sgd Go.Proofs.YthffpkdadffinaaDoor.Sgp Go.Proofs.YthffpkdadffinaaDoor.Sgq Go.Proofs.YthffpkdadffinaaDoor.Sgv Go.Proofs.YthffpkdadffinaaDoor.Sgw Go.Proofs.YthffpkdadffinaaDoor.Wa Go.Proofs.YthffpkdadffinaaDoor.Wb Go.Proofs.YthffpkdadffinaaDoor.Wd Go.Proofs.YthffpkdadffinaaDoor.Wg
theorem catB_len : ∀ l : List ByteArray, sizes l = (catB l).size := fun l => (catB_size l).symm
theorem sizes_take (l : List ByteArray) (k : Nat) : sizes (l.take k) ≤ sizes l := by
  have : sizes l = sizes (l.take k) + sizes (l.drop k) := by rw [← sizes_app, List.take_append_drop]
  omega
theorem cut_map (b : List Int) : (cutS (full b)).map (·.f0) = Sgt.cutTS (rns b) := by
  unfold rns cutS Sgt.cutTS
  cases full b with
  | nil => rfl
  | cons p t => exact Sgt.cutR_txt t _ _ _
theorem txt_sz (b : List Int) (hB : Bytes b) : (txt (rns b)).size ≤ 12 * b.length := by
  have h := nfd_len b hB
  rw [txt_nfd, str_size (nfd_byte b)]
  exact h
theorem split_take (lim : Int) (b : List Int) (hB : Bytes b) (hl : b.length ≤ 1048576) : ∃ k, (splitF lim b).1 = (cutS (full b)).take k ∧ sizes ((splitF lim b).1.map (·.f0)) ≤ 13000000 ∧ (splitF lim b).1.length ≤ 13000000 := by
  have hsz : sizes ((cutS (full b)).map (·.f0)) ≤ 13000000 := by
    rw [cut_map, catB_len, cutTS_cat]
    have := txt_sz b hB
    omega
  have hln := (Sgr.fsize b hB (by omega)).2
  by_cases h : lim < 1 ∨ lim > 64
  · refine ⟨0, ?_⟩
    unfold splitF
    rw [if_pos h]
    exact ⟨rfl, by decide, by decide⟩
  · have e := split_cut lim b hB (by omega) (by omega) (by omega)
    have ht := (Sgz.good_take lim (cutS (full b))).1
    have hle := (Sgz.good_take lim (cutS (full b))).2
    rw [e]
    refine ⟨(goodS lim (cutS (full b))).1.length, ht, ?_, by simp only; omega⟩
    simp only
    rw [ht, List.map_take]
    have := sizes_take ((cutS (full b)).map (·.f0)) (goodS lim (cutS (full b))).1.length
    omega
theorem wordsE (lim : Int) (b : List Int) (hB : Bytes b) (hl : b.length ≤ 1048576) : words_Words.f b lim = some (if (splitF lim b).2 = 0 then (wordsF (splitF lim b).1, 0) else ([], (splitF lim b).2)) := by
  obtain ⟨k, -, h2, h3⟩ := split_take lim b hB hl
  have e1 : seg_Split.f b lim = some (splitF lim b) := by unfold seg_Split.f; rw [if_pos ⟨Sgr.bytesB_mk hB, by omega⟩]
  unfold words_Words.f
  rw [e1]
  simp only [Option.bind_some]
  by_cases h : (splitF lim b).2 = 0
  · rw [if_pos h, if_pos h]
    unfold words_Join.f
    rw [if_pos ⟨h2, h3⟩]
    rfl
  · rw [if_neg h, if_neg h]
theorem wordsF_len (l : List SG) : (wordsF l).length ≤ l.length := by
  have h3 := (runs_len (inW (l.map (·.f0))) (l.map (·.f0)).length 0).1
  unfold wordsF runsT
  rw [List.length_map]
  rw [List.length_map] at h3 ⊢
  exact h3
end Go.Proofs.YthffpkdadffinaaDoor.Wt
namespace Go.Proofs.YthffpkdadffinaaDoor.Lwa
set_option linter.unusedVariables false
set_option linter.unusedSimpArgs false
open Go.Proofs.YthffpkdadffinaaDoor.Ux (Bytes full)
open Go.Proofs.YthffpkdadffinaaDoor.Ot (rns)
open Go.RowKit Go.Proofs.YthffpkdadffinaaDoorW.PrintWords Go.Proofs.YthffpkdadffinaaDoor.Hp Go.Proofs.YthffpkdadffinaaDoor.Fm Go.Proofs.YthffpkdadffinaaDoor.X Go.Proofs.YthffpkdadffinaaDoor.Va Go.Proofs.YthffpkdadffinaaDoor.Oa Go.Proofs.YthffpkdadffinaaDoor.Vp0 Go.Proofs.YthffpkdadffinaaDoor.Sga Go.Proofs.YthffpkdadffinaaDoor.Sgb Go.Proofs.YthffpkdadffinaaDoor.Sgd Go.Proofs.YthffpkdadffinaaDoor.Sgp Go.Proofs.YthffpkdadffinaaDoor.Sgw Go.Proofs.YthffpkdadffinaaDoor.Wa Go.Proofs.YthffpkdadffinaaDoor.Wb Go.Proofs.YthffpkdadffinaaDoor.Wd Go.Proofs.YthffpkdadffinaaDoor.Wg Go.Proofs.YthffpkdadffinaaDoor.Wj
def ApartW (n : Nat) (L : List SW) : Prop := ∀ i (h : i < L.length), 0 < L[i].f0.size ∧ L[i].f1.f0 < L[i].f1.f1 ∧ L[i].f1.f2 < L[i].f1.f3 ∧ L[i].f1.f3 ≤ n ∧ ∀ j (hj : j + 1 = i), (L[j]'(by omega)).f1.f1 < L[i].f1.f0 ∧ (L[j]'(by omega)).f1.f3 < L[i].f1.f2
theorem apart_words {b : List Int} (hB : Bytes b) {l : List SG} (hF : FillO b 0 false l) : ApartW b.length (wordsF l) := by
  have hm : (l.map (·.f0)).length = l.length := List.length_map _
  have hA := runsT_apart (l.map (·.f0))
  rw [hm] at hA
  have hW : wordsF l = (runsT (l.map (·.f0))).map (wordOf l) := rfl
  obtain ⟨P, hPe⟩ : ∃ P, P = runsT (l.map (·.f0)) := ⟨_, rfl⟩
  rw [← hPe] at hA hW
  rw [hW]
  intro i h
  have hiP : i < P.length := by rw [List.length_map] at h; exact h
  have h1 := Apart.mem hA P[i] (List.getElem_mem hiP)
  obtain ⟨s, e, q1, q2, q3, q4, -, q6⟩ := keyR_raw hB hF P[i].1 P[i].2 h1.2.1 h1.2.2
  have g1 : gAt l P[i].1 = l[P[i].1]'(by omega) := gAt_eq _
  have g2 : gAt l (P[i].2 - 1) = l[P[i].2 - 1]'(by omega) := gAt_eq _
  simp only [List.getElem_map, wordOf, g1, g2, q1, q2]
  refine ⟨q6, by omega, by omega, by omega, fun j hj => ?_⟩
  subst hj
  have h2 := Apart.mem hA P[j] (List.getElem_mem (by omega))
  have h3 := Apart.next hA j hiP
  have h4 := runs_gap hF P[j].2 P[j + 1].1 (by omega) h3 (by omega)
  have g3 : gAt l (P[j].2 - 1) = l[P[j].2 - 1]'(by omega) := gAt_eq _
  simp only [g3]
  rw [q1] at h4
  exact ⟨by omega, h4⟩
theorem apart_all (b : List Int) (hB : Bytes b) (hl : b.length ≤ 1048576) : ∃ L e, words_Words.f b 64 = some (L, e) ∧ ApartW b.length L ∧ L.length ≤ 13000000 := by
  obtain ⟨k, h1, -, h3⟩ := Wt.split_take 64 b hB hl
  have hw := Wt.wordsE 64 b hB hl
  obtain ⟨r, hr⟩ : ∃ r, r = Sgd.splitF 64 b := ⟨_, rfl⟩
  rw [← hr] at h1 h3 hw
  clear hr
  have hF := (fillO_all b).take k
  rw [← h1] at hF
  obtain ⟨r1, r2⟩ := r
  simp only at hF h3 hw
  by_cases h : r2 = 0
  · rw [if_pos h] at hw
    exact ⟨wordsF r1, 0, hw, apart_words hB hF, Nat.le_trans (Wt.wordsF_len r1) h3⟩
  · rw [if_neg h] at hw
    refine ⟨[], r2, hw, ?_, Nat.zero_le _⟩
    intro i hi
    exact absurd hi (Nat.not_lt_zero i)
set_option maxRecDepth 100000 in
set_option maxHeartbeats 8000000 in
theorem wordsApartP (w : World) (hG : G w) (A : Option Addr) (n c : Nat) (b : List Int) (hC : KB.C w A n b) (hn : n = b.length) (hc : n ≤ c) (hB : Bytes b) (hl : n ≤ 1048576) :
    Calls Tryd.prog 10 #[.slice A n c] w fun e w' => e = .returned (.bool true) ∧ Below w.heap.size w w' := by
  obtain ⟨L, er, hW, hAP, hLl⟩ := apart_all b hB (by omega)
  rw [← hn] at hAP
  have FW := Aside0.mk (show ∀ W, Below w.heap.size w W → Calls Tryd.prog 27 #[.slice A n c, .int .i64 64] W fun E w' => ∃ v, E = .returned (.tuple #[v, .int .i64 er]) ∧ kW.R TW w' W.heap.size (fun _ => True) v L ∧ Below W.heap.size W w' from fun W h => by
    subst hn
    exact words_Words.calls A c b 64 L er W (Kd.C_below hC h) hc hW (hG.below h))
  have HAP := Aside0.mk hAP
  have HG := Aside0.mk hG
  obtain ⟨m, hm⟩ : ∃ m, m = L.length := ⟨_, rfl⟩
  have hm2 : m ≤ 13000000 := by omega
  have HM := Aside0.mk hm
  clear hC hn hB hG hW hAP hm hLl
  go_enter Tryd.func10, Tryd.ntmps10
  go_wp2_with (first | (go_at_call 26; refine (Wf.wordsFixedP w HG.out).mono ?_; rintro E w2 ⟨rfl, p1⟩; have H2 := Aside0.mk p1; clear p1) | (go_at_call 27; go_must (refine (FW.out w2 H2.out).mono ?_; rintro E w3 ⟨v, rfl, p0, p1⟩; obtain ⟨A3, c3, rfl, hc3, hC3⟩ := Kd.R_reads p0; have C3 := Aside0.mk hC3; have H3 := Aside0.mk (below_step H2.out p1); clear p0 p1 hC3; rw [← HM.out] at hc3 C3 ⊢)))
  go_loopw [16] (fun iv wr => ∃ i : Nat, i ≤ m ∧ iv = .int .i64 i ∧ Aside0 (Below w3.heap.size w3 wr)) (fun iv _ => m - (intOf iv).toNat)
  case atStart => exact ⟨0, Nat.zero_le _, rfl, ⟨Below.refl _ _⟩⟩
  case round =>
    obtain ⟨i, hi, rfl, HR⟩ := hrel
    by_cases hlt : i < m
    · have hd : decide ((i : Int) < (m : Int)) = true := decide_eq_true (by omega)
      have hd' : decide (i < m) = true := decide_eq_true hlt
      have hil : i < L.length := by rw [← HM.out]; exact hlt
      obtain ⟨ad, rfl, z0, z1, z2, z3, z4⟩ := Wf.wd_at C3.out i hlt hil
      have hp := HAP.out i hil
      obtain ⟨x, hx⟩ : ∃ x, x = L[i] := ⟨_, rfl⟩
      rw [← hx] at z0 z1 z2 z3 z4 hp
      obtain ⟨ky, ⟨F, T', S', E'⟩⟩ := x
      simp only at z0 z1 z2 z3 z4 hp
      have z0 := cell_later HR.out z0
      have z1 := cell_later HR.out z1
      have z2 := cell_later HR.out z2
      have z3 := cell_later HR.out z3
      have z4 := cell_later HR.out z4
      have HP := Aside0.mk hp
      have hn0 : (0 : Int) ≤ (i : Int) := by omega
      have hn1 : (i : Int) < (m : Int) := by omega
      clear hp hx
      go_upto_region 7 with (fail)
      obtain ⟨w4, hw4⟩ : ∃ w4, w4 = wr.alloc (.cells #[.string ky, .int .i64 F, .int .i64 T', .int .i64 S', .int .i64 E'] TW) := ⟨_, rfl⟩
      have HB4 := Aside0.mk (show Below w3.heap.size w3 w4 by rw [hw4]; exact below_step HR.out (below_alloc (Below.refl _ _) _))
      obtain ⟨pb, hpb⟩ : ∃ pb, pb = wr.heap.size := ⟨_, rfl⟩
      have hbk : w4.heap[pb]? = some (.cells #[.string ky, .int .i64 F, .int .i64 T', .int .i64 S', .int .i64 E'] TW (0, 0)) := by rw [hw4, hpb]; exact heap_alloc_new wr _
      rw [← hw4, ← hpb]
      have c0 := blk_cell hbk 0
      have c1 := blk_cell hbk 1
      have c2 := blk_cell hbk 2
      have c3' := blk_cell hbk 3
      have c4 := blk_cell hbk 4
      obtain ⟨p0, p1, p2, p3, p4⟩ := HP.out
      have k0 : (ky.toList == []) = false := beq_eq_false_iff_ne.2 fun h => by
        rw [Sgr.ba_data] at h
        have e : ky.data.toList.length = ky.size := by rw [Array.length_toList]; rfl
        rw [h] at e
        simp at e
        omega
      have k1 : decide (T' ≤ F) = false := decide_eq_false (by omega)
      have k2 : decide (E' ≤ S') = false := decide_eq_false (by omega)
      have k3 : decide (E' > (n : Int)) = false := decide_eq_false (by omega)
      have k3' : decide ((n : Int) < E') = false := decide_eq_false (by omega)
      cases i with
      | zero =>
        clear hw4 hpb hbk HR z0 z1 z2 z3 z4 p0 p1 p2 p3 p4 HP
        go_quiet (fail)
        have HB5 := Aside0.mk (below_step HB4.out ((Drawn0.refl w4).step nq).below)
        clear c0 c1 c2 c3' c4 HB4
        generalize w4.drewN nq = w5 at HB5 ⊢
        go_wp2
        go_roundw
        case rel => exact ⟨1, by omega, by go_num, HB5⟩
        case measure => simp [intOf]; omega
      | succ j =>
        have hjl : j < L.length := by omega
        obtain ⟨_, ha, -, -, y2, -, y4⟩ := Wf.wd_at C3.out j (by omega) hjl
        obtain rfl := Option.some.inj ha
        obtain ⟨q1, q2⟩ := p4 j rfl
        obtain ⟨T0, hT0⟩ : ∃ T0, T0 = (L[j]).f1.f1 := ⟨_, rfl⟩
        obtain ⟨E0, hE0⟩ : ∃ E0, E0 = (L[j]).f1.f3 := ⟨_, rfl⟩
        rw [← hT0] at y2 q1
        rw [← hE0] at y4 q2
        have y2 := cell_later HB4.out y2
        have y4 := cell_later HB4.out y4
        have y2' : w4.cell? ⟨(ad.add (j * 5)).block, (ad.add (j * 5)).off + 1 + 1, none⟩ = some (.int .i64 T0) := y2
        have y4' : w4.cell? ⟨(ad.add (j * 5)).block, (ad.add (j * 5)).off + 1 + 3, none⟩ = some (.int .i64 E0) := y4
        have hwj : wrap64 (((j + 1 : Nat) : Int) - 1) = (j : Int) := by unfold wrap64; omega
        have hwj2 : wrap64 ((j : Int) + 1 - 1) = (j : Int) := by unfold wrap64; omega
        have hwj3 : IntKind.i64.wrap (j : Int) = (j : Int) := by rw [IntKind.wrap_i64]; omega
        have hjn : (m ≤ j) = False := eq_false (by omega)
        have hjm : j < m := by omega
        have k4 : decide (T0 ≥ F) = false := decide_eq_false (by omega)
        have k4' : decide (F ≤ T0) = false := decide_eq_false (by omega)
        have k5 : decide (E0 ≥ S') = false := decide_eq_false (by omega)
        have k5' : decide (S' ≤ E0) = false := decide_eq_false (by omega)
        have k6 : decide ((((j + 1 : Nat) : Int)) > 0) = true := decide_eq_true (by omega)
        have k6' : decide ((0 : Int) < (j : Int) + 1) = true := decide_eq_true (by omega)
        clear hw4 hpb hbk HR z0 z1 z2 z3 z4 p0 p1 p2 p3 p4 HP hT0 hE0 q1 q2 ha
        go_quiet (fail)
        have HB5 := Aside0.mk (below_step HB4.out ((Drawn0.refl w4).step nq).below)
        clear c0 c1 c2 c3' c4 HB4 y2 y4 y2' y4'
        generalize w4.drewN nq = w5 at HB5 ⊢
        go_wp2
        go_roundw
        case rel => exact ⟨j + 1 + 1, by omega, by go_num, HB5⟩
        case measure => simp [intOf]; omega
    · have hd : decide ((i : Int) < (m : Int)) = false := decide_eq_false (by omega)
      have hd' : decide (i < m) = false := decide_eq_false hlt
      clear hlt
      go_wp2
      go_ret
      exact ⟨rfl, below_step H3.out HR.out⟩
end Go.Proofs.YthffpkdadffinaaDoor.Lwa
namespace Go.Proofs.YthffpkdadffinaaDoor.X
set_option linter.unusedVariables false
set_option linter.unusedSimpArgs false
open Go.RowKit Go.Proofs.YthffpkdadffinaaDoorW.PrintWords Go.Proofs.YthffpkdadffinaaDoor.Vp0
def tremalaw13_WordsApart.f (b : List Int) : Option Bool := if bytesB b = true ∧ b.length ≤ 1048576 then some true else none
theorem tremalaw13_WordsApart.calls (A0 : Option Addr) (c0 : Nat) (b : List Int) (r : Bool) (w : World) (hr0 : Kd.C (Kd.int .u8) w A0 b.length b) (hc0 : b.length ≤ c0) (h : tremalaw13_WordsApart.f b = some r) (hG0 : Va.G w) :
  Calls Tryd.prog 10 #[.slice A0 b.length c0] w fun e w' => e = .returned (.bool r) ∧ Below w.heap.size w w' := by
  unfold tremalaw13_WordsApart.f at h
  split at h
  · rename_i hh
    cases Option.some.inj h
    exact Lwa.wordsApartP w hG0 A0 b.length c0 b hr0 rfl hc0 (bytesB_of hh.1) hh.2
  · cases h
theorem tremalaw13_WordsApart.pure (b : List Int) (hwf : ∀ y ∈ b, (Lit.int .u8 y).wf = true) (hl : b.length ≤ 1048576) : tremalaw13_WordsApart.f b = some true := by
  unfold tremalaw13_WordsApart.f
  rw [if_pos ⟨Sgr.bytesB_mk (Ot.wf_bytes hwf), hl⟩]
end Go.Proofs.YthffpkdadffinaaDoor.X
namespace Go.Proofs.YthffpkdadffinaaDoor.wordsApart
open Go.ChangeShapes Go.WideShapes Go.ChangeAt Go.RowKit
open Go.ChangeMaps (open_string shut_string)
set_option linter.unusedVariables false
set_option linter.unusedSimpArgs false
theorem own : ownKnob Tryd.prog.godebug = none := by kernel_rfl
theorem laidOut : laidOutB Tryd.prog = true := by kernel_rfl
set_option maxRecDepth 100000 in
theorem contract (H : Type) (enc : TypeId × Value → H) (W : World) (base : Nat) (args : Array Value) (ds gs : List (DataW H)) (before : List MemPlace)
    (hval0 : ∀ (j : Nat) t v, Tryd.f10.params[j]? = some t → args[j]? = some v → Value.okWide Tryd.prog W .any base t v)
    (hW : DataW.Whole enc Tryd.prog Tryd.f10.params.toList Rows.wordsApartSpec.vars false W args.toList ds gs before)
    (hL : laidMetH Tryd.prog Lv.laid W)
    (hk0 : Rows.uptoSmall H (ds ++ gs) = true) :
    Calls Tryd.prog 10 args W fun e W' => ∃ v, e = .returned v ∧ Rows.wordsApartSpec.post enc Tryd.prog Tryd.f10 false true false false W args v W' := by
  have hkb : Rows.uptoBulkAll (ds ++ gs) ≤ 1048576 := of_decide_eq_true hk0
  have hval : ∀ (j : Nat) t v, Tryd.f10.params[j]? = some t → args[j]? = some v → Value.okWide Tryd.prog W .any base t v := hval0
  have hW' := hW
  obtain ⟨p, q, hA0, hV, rfl, hfz, hnd⟩ := hW
  have hA : DataW.TrodAll enc Tryd.prog W 0 (fun _ => true) true Tryd.f10.params.toList args.toList ds p := hA0
  rw [Tryd.params10] at hA hval
  obtain ⟨v0, vs0, d0, ds0, p0, q0, hargs, rfl, rfl, h0, r0⟩ := trodAll_cons hA
  obtain ⟨rfl, rfl, rfl⟩ := trodAll_nil r0
  obtain rfl : args = #[v0] := by cases args; simp_all
  obtain ⟨rfl, rfl⟩ := trodVars_none hV
  have k0 := h0
  have lt0 : ∀ x ∈ p0, x.block < W.heap.size := by obtain ⟨m, hm⟩ := k0; exact DataW.trod_lt m _ _ _ hm
  obtain ⟨A0, xs0, c0, rfl, hc0, hC0, hw0, hb0, hz0⟩ := Od.arg_slice Tryd.underlying23 (by kernel_rfl) (Od.opens_int Tryd.underlying5) (hval 0 23 v0 rfl rfl) h0
  simp only [List.append_nil, Rows.uptoBulkAll] at hkb
  have hB0 := Nat.le_trans (Nat.le_trans (Nat.le_succ _) hb0) (show Rows.uptoBulk d0 ≤ 1048576 by omega)
  clear hA0 hval0 hk0
  have hk := Go.Proofs.YthffpkdadffinaaDoor.X.tremalaw13_WordsApart.pure xs0 hw0 (Nat.le_trans (Od.sumB_len (fun _ => Nat.le_refl _) _) hB0)
  refine (Go.Proofs.YthffpkdadffinaaDoor.X.tremalaw13_WordsApart.calls A0 c0 xs0 true W hC0 hc0 hk (Lv.of_laid hL)).mono fun e W' ⟨he, bel⟩ => ?_
  subst he
  exact ⟨_, rfl, _, _, _, [], _, [], hW', trodAll_mk1 (shut_bool Tryd.underlying4 _), (trodAll_cons_mk (Below.trod laidOut (by kernel_rfl) (of_decide_eq_true (by kernel_rfl)) k0 bel lt0) trodAll_mk0), rfl, bel.frame _, fun h => by cases h⟩
set_option maxRecDepth 100000 in
theorem lifted (os : Os) (started : os.Started) (H : Type) (enc : TypeId × Value → H) (F : Stop.Interp) :
    ReturnsInHanded {} Tryd.checked os 10 .any ((Rows.OpenSpec.upto Rows.wordsApartSpec).preRow enc Tryd.prog Tryd.f10 Rows.wordsApartUptoRow.domain false Rows.wordsApartUptoRow.laid) (((Rows.OpenSpec.upto Rows.wordsApartSpec).at F).post enc Tryd.prog Tryd.f10 false true false false) := by
  refine returnsInHanded_of_row (C := Tryd.checked) (s := Rows.OpenSpec.upto Rows.wordsApartSpec) own started (by kernel_rfl) Tryd.func10
    (witness_row_atRef (enc := enc) (C := Tryd.checked) false (World.doorLaid Tryd.prog 400 os) #[(.slice none 0 0)] rfl (by kernel_rfl) (by kernel_rfl) (by kernel_rfl)
      (OpenSpec.preRow_of_cond (x := ([.nil], [], [])) 8 (by kernel_rfl) (by kernel_rfl) (fun k hk => by cases hk; kernel_rfl) (by kernel_rfl) (Lv.door_met os _))) ?_
  intro W base args ds gs before hval hW _ hcond _ hL _ _
  exact contract H enc W base args ds gs before hval hW hL (hcond _ rfl)
theorem proved : Rows.WordsApartUptoSaid :=
  OpenClaim.holds_of_cond 10 Tryd.f10 rfl rfl rfl rfl rfl rfl rfl ⟨rfl, rfl, rfl, rfl, rfl⟩ rfl rfl rfl rfl rfl (by kernel_rfl) Tryd.func10 (by kernel_rfl)
    (of_decide_eq_true (by kernel_rfl)) (by unfold Func.isWrapper; first | (rw [if_pos (by decide +kernel)]; kernel_rfl) | (rw [if_neg (by decide +kernel)]; exact ⟨rfl, rfl⟩))
    (fun os started H enc _ F => by rw [OpenClaim.pre_eq_preRow]; exact lifted os started H enc F)
end Go.Proofs.YthffpkdadffinaaDoor.wordsApart
namespace Go.Proofs.YthffpkdadffinaaDoor
theorem wordsApart_holds : Rows.WordsApartUptoCardSaid :=
  Claim7.holds_tied_plain_at .later [] [.data, .data, .data] true (true, "40dec18509303b2ee17917badb52d4e1cd75dc8afa2e2cbc1ad49e1a0b909216") false
    wordsApart.proved (fun _ h => by cases h) (by kernel_rfl) (fun _ h => by cases h) wordsApartUpto_row_tie rfl ⟨rfl, rfl⟩ (by kernel_rfl) rfl
    (fun f fn hf hfn => by
      obtain rfl : f = 10 := Option.some.inj ((show Tryd.prog.funcNamed "trema/tremalaw13.WordsApart" = some 10 by kernel_rfl).symm.trans hf) |>.symm
      obtain rfl : fn = Tryd.f10 := (Option.some.inj (Tryd.func10.symm.trans hfn)).symm
      exact ⟨by kernel_rfl, fun j t ht => by
        rw [Tryd.params10] at ht
        have hm : t ∈ [23] := by simpa using Array.mem_of_getElem? ht
        have hall : ([23].all fun u => !Tryd.prog.wantsStandIn u) = true := by kernel_rfl
        exact (show Tryd.prog.wantsStandIn t = false by simpa using List.all_eq_true.1 hall t hm)⟩)
    (by kernel_rfl)
#print axioms wordsApart_holds
end Go.Proofs.YthffpkdadffinaaDoor
