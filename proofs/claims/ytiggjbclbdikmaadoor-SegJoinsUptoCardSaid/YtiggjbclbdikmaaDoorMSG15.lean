/-
  Several texts of this claim in one: what its law's proof uses.
-/
import Derived.Test.YtiggjbclbdikmaaDoorMSG11
import Derived.Test.YtiggjbclbdikmaaDoorMSG8
import Derived.Test.YtiggjbclbdikmaaDoorMSG14
import Derived.Test.YtiggjbclbdikmaaDoorMSG13
import Derived.Test.YtiggjbclbdikmaaDoorMSG2
import Derived.Test.YtiggjbclbdikmaaDoorMSG12
import Derived.Test.YtiggjbclbdikmaaDoorMSG7
namespace Go.Proofs.YtiggjbclbdikmaaDoor.Ur
set_option linter.unusedVariables false
set_option linter.unusedSimpArgs false
open Go.RowKit Go.Proofs.YtiggjbclbdikmaaDoorW.PrintWords Go.Proofs.YtiggjbclbdikmaaDoor.Hp Go.Proofs.YtiggjbclbdikmaaDoor.X Go.Proofs.YtiggjbclbdikmaaDoor.Ux
theorem bnd_lo {c : Int} {bs : List (Int × Int)} (h : bnd c = some bs) : ∀ b, b ∈ bs → 128 ≤ b.1 ∧ b.2 ≤ 191 := by
  unfold bnd at h
  split at h
  · cases h; simp
  · split at h
    · cases h
    · split at h
      · cases h; simp
      · split at h
        · cases h
          intro b hb
          simp at hb
          rcases hb with rfl | rfl
          · constructor <;> simp only <;> split <;> omega
          · simp
        · cases h
          intro b hb
          simp at hb
          rcases hb with rfl | rfl
          · constructor <;> simp only <;> split <;> omega
          · simp
theorem cont_cut : ∀ (bs : List (Int × Int)) (t : List Int) (r i : Int) (c : Int) (s : List Int), (∀ b, b ∈ bs → 128 ≤ b.1) → c < 128 → (cont bs t r i).2.2 = true → cont bs (t ++ c :: s) r i = (65533, i + t.length, false)
  | [], t, r, i, c, s, _, _, h => by simp [cont] at h
  | (lo, hi) :: bs, [], r, i, c, s, hb, hc, h => by
    have := hb (lo, hi) List.mem_cons_self
    simp only [List.nil_append, cont]
    rw [if_pos (.inl (by simp only at this; omega))]
    simp
  | (lo, hi) :: bs, x :: t, r, i, c, s, hb, hc, h => by
    simp only [cont, List.cons_append] at h ⊢
    split
    · rename_i hx; rw [if_pos hx] at h; simp at h
    · rename_i hx
      rw [if_neg hx] at h
      rw [cont_cut bs t _ _ c s (fun b hb2 => hb b (List.mem_cons_of_mem _ hb2)) hc h]
      simp only [List.length_cons]
      congr 2
      push_cast; omega
theorem one1_cut (x : Int) (t : List Int) (c : Int) (s : List Int) (hc : c < 128) (h : (one1 x t).2.2 = true) : one1 x (t ++ c :: s) = (65533, (1 : Int) + (t.length : Int), false) := by
  unfold one1 at h ⊢
  cases hb : bnd x with
  | none => rw [hb] at h; simp at h
  | some bs =>
    rw [hb] at h
    exact cont_cut bs t _ _ c s (fun b hb2 => (bnd_lo hb b hb2).1) hc h
theorem one1_ascii (c : Int) (hc : c < 128) (t : List Int) : one1 c t = (c, 1, false) := by
  simp [one1, bnd, st, hc, cont]
theorem dc_ascii (c : Int) (hc : c < 128) (p : Int) : dc [c] p = ([(⟨c, p, 1⟩ : S75)], [], p + 1) := by
  rw [dc_cons, one1_ascii c hc]
  simp [dc_nil]
theorem dc_cut (r : List Int) (p : Int) (c : Int) (hc : c < 128) (hr : dc r p = ([], r, p)) : dc (r ++ [c]) p = (rest1 r p ++ [(⟨c, p + r.length, 1⟩ : S75)], [], p + r.length + 1) := by
  cases r with
  | nil => simp [dc_ascii c hc, rest1]
  | cons x t =>
    have hm : (one1 x t).2.2 = true := by
      rw [dc_cons] at hr
      split at hr
      · assumption
      · simp at hr
    rw [List.cons_append, dc_cons, one1_cut x t c [] hc hm]
    simp only [Bool.false_eq_true, if_false]
    have e : (x :: (t ++ [c])).drop ((1 : Int) + (t.length : Int)).toNat = [c] := by
      rw [show ((1 : Int) + (t.length : Int)).toNat = t.length + 1 by omega, ← List.cons_append]
      rw [List.drop_append_of_le_length (by simp)]
      simp
    rw [e, dc_ascii c hc]
    have e2 : (1 : Int) + (t.length : Int) = ((t.length + 1 : Nat) : Int) := by push_cast; omega
    simp [rest1, e2]
end Go.Proofs.YtiggjbclbdikmaaDoor.Ur
namespace Go.Proofs.YtiggjbclbdikmaaDoor.Oqe
set_option linter.unusedVariables false
set_option linter.unusedSimpArgs false
open Go.Proofs.YtiggjbclbdikmaaDoor.Vd (decU)
open Go.RowKit Go.Proofs.YtiggjbclbdikmaaDoorW.PrintWords Go.Proofs.YtiggjbclbdikmaaDoor.Ev0 Go.Proofs.YtiggjbclbdikmaaDoor.X Go.Proofs.YtiggjbclbdikmaaDoor.Va Go.Proofs.YtiggjbclbdikmaaDoor.Ve Go.Proofs.YtiggjbclbdikmaaDoor.Vp0 Go.Proofs.YtiggjbclbdikmaaDoor.Vr Go.Proofs.YtiggjbclbdikmaaDoor.Vu Go.Proofs.YtiggjbclbdikmaaDoor.Na Go.Proofs.YtiggjbclbdikmaaDoor.Oa Go.Proofs.YtiggjbclbdikmaaDoor.Ob
theorem nrm_cut (a b : List Int) (hb : b = [] ∨ ∃ z t, flat b = z :: t ∧ cls z = 0) : nrm (a ++ b) = nrm a ++ nrm b := by
  unfold nrm
  rw [flat_app]
  refine ordL_cut _ _ ?_
  rcases hb with rfl | ⟨z, t, h, hz⟩
  · exact .inl rfl
  · exact .inr ⟨z, t, h, hz⟩
theorem opens_cut (l : List Int) (n : Nat) (hn : n < l.length) (ho : opn l[n] = true) : nrm l = nrm (l.take n) ++ nrm (l.drop n) := by
  have h := nrm_cut (l.take n) (l.drop n) (.inr ?_)
  · rwa [List.take_append_drop] at h
  · rw [List.drop_eq_getElem_cons hn, flat_cons]
    have hne := Ve.decF_ne 4 l[n]
    unfold opn at ho
    have h0 : cls ((decU l[n]).getD 0 0) = 0 := by simpa using (Bool.and_eq_true_iff.1 ho).1
    have e : decU l[n] = Vd.decF 4 l[n] := rfl
    rw [← e] at hne
    match hd : decU l[n], hne with
    | z :: t, _ =>
      rw [hd] at h0
      exact ⟨z, t ++ flat (l.drop (n + 1)), by simp, by simpa using h0⟩
end Go.Proofs.YtiggjbclbdikmaaDoor.Oqe
namespace Go.Proofs.YtiggjbclbdikmaaDoor.Sgt
set_option linter.unusedVariables false
set_option linter.unusedSimpArgs false
open Go.Proofs.YtiggjbclbdikmaaDoor.Ux (Bytes one1 bnd st cont dc dc_cons dc_nil dc_ind dc_rest dc_len dc_append rest1 full dec one1_width bnd_len one1_more)
open Go.Proofs.YtiggjbclbdikmaaDoor.Ve (opn)
open Go.Proofs.YtiggjbclbdikmaaDoor.Bk (ful ful_nil ful_cons full_ful)
open Go.Proofs.YtiggjbclbdikmaaDoor.En (enc enc_len enc_byte)
open Go.Proofs.YtiggjbclbdikmaaDoor.Ot (rns)
open Go.RowKit Go.Proofs.YtiggjbclbdikmaaDoorW.PrintWords Go.Proofs.YtiggjbclbdikmaaDoor.Ev0 Go.Proofs.YtiggjbclbdikmaaDoor.X Go.Proofs.YtiggjbclbdikmaaDoor.Oa Go.Proofs.YtiggjbclbdikmaaDoor.Ob Go.Proofs.YtiggjbclbdikmaaDoor.Vp0 Go.Proofs.YtiggjbclbdikmaaDoor.Vr Go.Proofs.YtiggjbclbdikmaaDoor.Vu Go.Proofs.YtiggjbclbdikmaaDoor.Sga Go.Proofs.YtiggjbclbdikmaaDoor.Sgb Go.Proofs.YtiggjbclbdikmaaDoor.Sgc Go.Proofs.YtiggjbclbdikmaaDoor.Sgd Go.Proofs.YtiggjbclbdikmaaDoor.Sgp Go.Proofs.YtiggjbclbdikmaaDoor.Sgq Go.Proofs.YtiggjbclbdikmaaDoor.Sgr
theorem ful_pos : ∀ (N : Nat) (b : List Int) (p q : Int), b.length ≤ N → (ful b p).map (·.f0) = (ful b q).map (·.f0)
  | _, [], p, q, _ => by rw [ful_nil, ful_nil]
  | 0, c :: t, p, q, h => by simp at h
  | N + 1, c :: t, p, q, h => by
    rw [ful_cons, ful_cons, List.map_cons, List.map_cons]
    have := Ux.drop_lt c t
    rw [ful_pos N _ _ (q + (one1 c t).2.1) (by simp only [List.length_cons] at h; omega)]
theorem rns_ful (b : List Int) (p : Int) : (ful b p).map (·.f0) = rns b := ful_pos b.length b p 0 (Nat.le_refl _)
theorem rns_nil : rns [] = [] := by rw [← rns_ful [] 0, ful_nil]; rfl
theorem rns_cons (c : Int) (t : List Int) : rns (c :: t) = (one1 c t).1 :: rns ((c :: t).drop (one1 c t).2.1.toNat) := by
  rw [← rns_ful _ 0, ful_cons, List.map_cons, rns_ful]
theorem cont_take : ∀ (bs : List (Int × Int)) (t : List Int) (r i : Int) (m : Nat), (cont bs t r i).2.1 ≤ i + m → (cont bs (t.take m) r i).1 = (cont bs t r i).1 ∧ (cont bs (t.take m) r i).2.1 = (cont bs t r i).2.1
  | [], t, r, i, m, h => by simp [cont]
  | _ :: _, [], r, i, m, h => by simp [cont]
  | (lo, hi) :: bs, x :: t, r, i, m, h => by
    simp only [cont] at h ⊢
    split at h
    · rename_i hx
      rw [if_pos hx]
      cases m with
      | zero => simp [cont]
      | succ m => simp only [List.take_succ_cons, cont, if_pos hx]; exact ⟨trivial, trivial⟩
    · rename_i hx
      rw [if_neg hx]
      have hw := (Ux.cont_width bs t (r * 64 + x % 64) (i + 1)).1
      cases m with
      | zero => omega
      | succ m =>
        simp only [List.take_succ_cons, cont, if_neg hx]
        exact cont_take bs t _ _ m (by omega)
theorem one1_take (c : Int) (t : List Int) (m : Nat) (h : (one1 c t).2.1 ≤ 1 + m) : (one1 c (t.take m)).1 = (one1 c t).1 ∧ (one1 c (t.take m)).2.1 = (one1 c t).2.1 := by
  unfold one1 at h ⊢
  cases hb : bnd c with
  | none => exact ⟨rfl, rfl⟩
  | some bs =>
    rw [hb] at h
    exact cont_take bs t _ _ m h
def Inv (b : List Int) (a e : Nat) (rs : List Int) : Prop := ∀ m, e ≤ m → rns ((b.take m).drop a) = rs ++ rns ((b.take m).drop e)
theorem inv_self (b : List Int) (a : Nat) : Inv b a a [] := fun m _ => by simp
theorem inv_step {b : List Int} {a e : Nat} {rs : List Int} (h : Inv b a e rs) (c : Int) (t : List Int) (hd : b.drop e = c :: t) : Inv b a (e + (one1 c t).2.1.toNat) (rs ++ [(one1 c t).1]) := by
  intro m hm
  have hw := one1_width c t
  obtain ⟨w, hwe⟩ : ∃ w : Nat, (one1 c t).2.1 = (w : Int) := ⟨(one1 c t).2.1.toNat, by omega⟩
  rw [hwe, Int.toNat_natCast] at hm ⊢
  rw [h m (by omega), List.append_assoc]
  congr 1
  have e1 : (b.take m).drop e = c :: t.take (m - e - 1) := by
    rw [List.drop_take, hd, show m - e = (m - e - 1) + 1 by omega, List.take_succ_cons]
    rfl
  have h1 := one1_take c t (m - e - 1) (by omega)
  rw [e1, rns_cons, h1.1, h1.2, hwe, Int.toNat_natCast, ← e1, List.drop_drop]
  rfl
def Fills (b : List Int) : Nat → List SG → Prop
  | a, [] => a = b.length
  | a, s :: l => s.f1 = a ∧ ∃ e : Nat, s.f2 = e ∧ a < e ∧ e ≤ b.length ∧ s.f0 = txt (rns ((b.take e).drop a)) ∧ Fills b e l
theorem rns_inv {b : List Int} {a e : Nat} {rs : List Int} (h : Inv b a e rs) : rns ((b.take e).drop a) = rs := by
  rw [h e (Nat.le_refl _), List.drop_eq_nil_of_le (by rw [List.length_take]; omega), rns_nil, List.append_nil]
theorem fills_cut (b : List Int) : ∀ (t : List SP) (rs : List Int) (a e : Nat), a < e → e ≤ b.length → Inv b a e rs → ful (b.drop e) (e : Int) = t → Fills b a (cutR t rs a e)
  | [], rs, a, e, hae, hel, hi, ht => by
    have he : e = b.length := by
      cases hd : b.drop e with
      | nil => have := List.drop_eq_nil_iff.1 hd; omega
      | cons c t => rw [hd, ful_cons] at ht; cases ht
    rw [cutR]
    exact ⟨rfl, e, rfl, hae, hel, by rw [rns_inv hi], he⟩
  | p :: t, rs, a, e, hae, hel, hi, ht => by
    cases hd : b.drop e with
    | nil => rw [hd, ful_nil] at ht; cases ht
    | cons c u =>
      rw [hd, ful_cons] at ht
      have hw := one1_width c u
      have hul : (b.drop e).length = 1 + u.length := by rw [hd, List.length_cons]; omega
      rw [List.length_drop] at hul
      have hst := inv_step hi c u hd
      have hst0 := inv_step (inv_self b e) c u hd
      obtain ⟨w, hwe⟩ : ∃ w : Nat, (one1 c u).2.1 = (w : Int) := ⟨(one1 c u).2.1.toNat, by omega⟩
      rw [hwe, Int.toNat_natCast] at hst hst0
      have ht1 := (List.cons.inj ht).1
      have ht2 := (List.cons.inj ht).2
      rw [hwe, Int.toNat_natCast, ← hd, List.drop_drop] at ht2
      have p0 : p.f0 = (one1 c u).1 := by rw [← ht1]
      have p1 : p.f1 = (e : Int) := by rw [← ht1]
      have p2 : p.f2 = (w : Int) := by rw [← ht1, hwe]
      have e2 : p.f1 + p.f2 = ((e + w : Nat) : Int) := by rw [p1, p2]; push_cast; rfl
      rw [cutR, e2, p1]
      rw [← p0] at hst hst0
      have ih := fun rs a hae hi => fills_cut b t rs a (e + w) hae (by omega) hi (by rw [← ht2]; push_cast; rfl)
      split
      · exact ⟨rfl, e, rfl, hae, hel, by rw [rns_inv hi], ih [p.f0] e (by omega) hst0⟩
      · exact ih (rs ++ [p.f0]) a (by omega) hst
theorem fills_all (b : List Int) : Fills b 0 (cutS (full b)) := by
  cases b with
  | nil => rw [full_ful, ful_nil]; rfl
  | cons c t =>
    have hw := one1_width c t
    rw [full_ful, ful_cons, cutS]
    obtain ⟨w, hwe⟩ : ∃ w : Nat, (one1 c t).2.1 = (w : Int) := ⟨(one1 c t).2.1.toNat, by omega⟩
    have hst := inv_step (inv_self (c :: t) 0) c t (by simp)
    rw [hwe, Int.toNat_natCast] at hst
    simp only [hwe, Int.toNat_natCast, List.nil_append, Nat.zero_add, Int.zero_add] at hst ⊢
    exact fills_cut (c :: t) _ [(one1 c t).1] 0 w (by omega) (by simp only [List.length_cons]; omega) hst rfl
def cutT : List Int → List Int → List ByteArray
  | [], rs => [txt rs]
  | x :: t, rs => if opn x = true then txt rs :: cutT t [x] else cutT t (rs ++ [x])
def cutTS : List Int → List ByteArray
  | [] => []
  | x :: t => cutT t [x]
theorem cutR_txt : ∀ (t : List SP) (rs : List Int) (a e : Int), (cutR t rs a e).map (·.f0) = cutT (t.map (·.f0)) rs
  | [], rs, a, e => rfl
  | p :: t, rs, a, e => by
    rw [cutR, List.map_cons, cutT]
    split
    · rw [List.map_cons, cutR_txt t]
    · rw [cutR_txt t]
theorem texts_rns (b : List Int) (hB : Bytes b) (hl : b.length ≤ 100000000) : textsF b = cutTS (rns b) := by
  rw [texts_cut b hB hl]
  unfold rns cutS
  split
  · rename_i h; rw [h]; rfl
  · rename_i p t h
    rw [h, cutR_txt]
    rfl
theorem cutT_app : ∀ (t u : List Int) (rs : List Int) (x : Int), opn x = true → cutT (t ++ x :: u) rs = cutT t rs ++ cutT u [x]
  | [], u, rs, x, h => by rw [List.nil_append]; show (if opn x = true then txt rs :: cutT u [x] else cutT u (rs ++ [x])) = _; rw [if_pos h]; rfl
  | y :: t, u, rs, x, h => by
    rw [List.cons_append, cutT, cutT]
    split
    · rw [cutT_app t u _ x h]; rfl
    · rw [cutT_app t u _ x h]
theorem cutTS_app (r s : List Int) (h : ∀ x t, s = x :: t → opn x = true) : cutTS (r ++ s) = cutTS r ++ cutTS s := by
  cases s with
  | nil => simp [cutTS]
  | cons x u =>
    cases r with
    | nil => rfl
    | cons y t => exact cutT_app t u [y] x (h x u rfl)
theorem rns_snoc (a b : List Int) (c : Int) (hc : c < 128) : rns (a ++ [c] ++ b) = rns (a ++ [c]) ++ rns b := by
  have h1 := dc_rest a 0
  have h2 : (dc (a ++ [c]) 0).2.1 = [] := by rw [dc_append, Ur.dc_cut _ _ c hc h1.2]
  rw [← rns_ful (a ++ [c] ++ b) 0, ← rns_ful (a ++ [c]) 0, ← rns_ful b (dc (a ++ [c]) 0).2.2]
  unfold ful
  rw [dc_append, h2, List.nil_append, ← List.map_append]
  simp [rest1]
end Go.Proofs.YtiggjbclbdikmaaDoor.Sgt
namespace Go.Proofs.YtiggjbclbdikmaaDoor.X
open Go.RowKit Go.Proofs.YtiggjbclbdikmaaDoorW.PrintWords Go.Proofs.YtiggjbclbdikmaaDoorW.PrintLast Go.Proofs.YtiggjbclbdikmaaDoorW.PrintMore
attribute [local go_sem] max2_int min2_int max_two min_two max_three min_three max_four min_four   
set_option linter.unusedVariables false
set_option linter.unusedSimpArgs false
def tremalaw04_SegJoins.j0 : Nat → List Int → List Int → Bool → Option (Bool)
 | 0, _, _, _ => none
 | k + 1, x0, x1, x24 => if x24 = true then (some true) else ((some (([] : List Int) : List Int)).bind fun y545 => (if y545.length + x0.length < 140737488355328 then ((some (y545 ++ x0 : List Int)).bind fun y548 => (if y548.length + x1.length < 140737488355328 then ((seg_Texts.f (y548 ++ x1)).bind fun t554 => ((seg_Texts.f x0).bind fun t557 => ((seg_Texts.f x1).bind fun t560 => (if t557.length + t560.length < 8796093022208 then ((tremaref01_SameTexts.f k t554 (t557 ++ t560)).bind fun t566 => (some t566)) else (none))))) else (none))) else (none)))
def tremalaw04_SegJoins.f (k : Nat) (l0 : List Int) (l1 : List Int) : Option (Bool) := (tremalaw04_fixed.f).bind fun t530 => (if t530 = true then ((tremaref01_Runes.f k l1).bind fun t531 => ((some (([] : List Int) : List Int)).bind fun y534 => (if y534.length + l0.length < 140737488355328 then ((some (y534 ++ l0 : List Int)).bind fun y537 => (if y537.length < 140737488355328 then ((some (y537 ++ [120] : List Int)).bind fun y540 => (if (t531.length : Int) > 0 then (if 0 < (t531.length : Int) then ((tremaref02_Opens.f k (rd t531 0)).bind fun t544 => (tremalaw04_SegJoins.j0 k y540 l1 (!t544))) else (none)) else (tremalaw04_SegJoins.j0 k y540 l1 false))) else (none))) else (none)))) else (some false))
theorem tremalaw04_SegJoins.mono_l : ∀ k, (∀ y0 y1 y2, LeO (tremalaw04_SegJoins.j0 k y0 y1 y2) (tremalaw04_SegJoins.j0 (k + 1) y0 y1 y2))
 | 0 => fun _ _ _ r h => by simp [tremalaw04_SegJoins.j0] at h
 | k + 1 => by
  have ih0 := tremalaw04_SegJoins.mono_l k
  ·intro y0 y1 y2
   unfold tremalaw04_SegJoins.j0
   repeat' first
   | (with_reducible exact ih0 _ _ _)
   | (with_reducible exact tremaref01_Runes.mono _ _)
   | (with_reducible exact tremaref01_SameTexts.mono _ _ _)
   | (with_reducible exact tremaref02_Opens.mono _ _)
   | (with_reducible exact LeO.refl _)
   | (with_reducible exact LeO.none _)
   | (with_reducible refine LeO.ite ?_ ?_)
   | (with_reducible refine LeO.bind ?_ (fun _ => ?_))
   | exact ih0 _ _ _
   | exact tremaref01_Runes.mono _ _
   | exact tremaref01_SameTexts.mono _ _ _
   | exact tremaref02_Opens.mono _ _
   | exact LeO.none _
   | refine LeO.ite ?_ ?_
   | refine LeO.bind ?_ (fun _ => ?_)
theorem tremalaw04_SegJoins.mono : ∀ a0 a1 k, LeO (tremalaw04_SegJoins.f k a0 a1) (tremalaw04_SegJoins.f (k + 1) a0 a1) := by
 intro a0 a1 k
 have ih0 := tremalaw04_SegJoins.mono_l k
 unfold tremalaw04_SegJoins.f
 repeat' first
   | (with_reducible exact ih0 _ _ _)
   | (with_reducible exact tremaref01_Runes.mono _ _)
   | (with_reducible exact tremaref01_SameTexts.mono _ _ _)
   | (with_reducible exact tremaref02_Opens.mono _ _)
   | (with_reducible exact LeO.refl _)
   | (with_reducible exact LeO.none _)
   | (with_reducible refine LeO.ite ?_ ?_)
   | (with_reducible refine LeO.bind ?_ (fun _ => ?_))
   | exact ih0 _ _ _
   | exact tremaref01_Runes.mono _ _
   | exact tremaref01_SameTexts.mono _ _ _
   | exact tremaref02_Opens.mono _ _
   | exact LeO.none _
   | refine LeO.ite ?_ ?_
   | refine LeO.bind ?_ (fun _ => ?_)
set_option maxHeartbeats 8000000 in
set_option maxRecDepth 100000 in
theorem tremalaw04_SegJoins.calls (k : Nat) (A0 : Option Addr) (c0 : Nat) (l0 : List Int) (A1 : Option Addr) (c1 : Nat) (l1 : List Int) (r : Bool) (w : World) (hr0 : Kd.C (Kd.int .u8) w A0 l0.length l0) (hc0 : l0.length ≤ c0) (hr1 : Kd.C (Kd.int .u8) w A1 l1.length l1) (hc1 : l1.length ≤ c1) (h : tremalaw04_SegJoins.f k l0 l1 = some r) (hG0 : Va.G w) :
  Calls Tryd.prog 18 #[.slice A0 l0.length c0, .slice A1 l1.length c1] w fun e w' => e = .returned (.bool r) ∧ Below w.heap.size w w' := by
 have HG := Aside0.mk hG0
 clear hG0
 have HR0 := Aside0.mk hr0
 have HC0 := Aside0.mk hc0
 clear hr0 hc0
 have HR1 := Aside0.mk hr1
 have HC1 := Aside0.mk hc1
 clear hr1 hc1
 have HB := Aside0.mk (Below.refl w.heap.size w)
 have H : ((tremalaw04_fixed.f).bind fun t530 => (if t530 = true then ((tremaref01_Runes.f k l1).bind fun t531 => ((some (([] : List Int) : List Int)).bind fun y534 => (if y534.length + l0.length < 140737488355328 then ((some (y534 ++ l0 : List Int)).bind fun y537 => (if y537.length < 140737488355328 then ((some (y537 ++ [120] : List Int)).bind fun y540 => (if (t531.length : Int) > 0 then (if 0 < (t531.length : Int) then ((tremaref02_Opens.f k (rd t531 0)).bind fun t544 => (tremalaw04_SegJoins.j0 k y540 l1 (!t544))) else (none)) else (tremalaw04_SegJoins.j0 k y540 l1 false))) else (none))) else (none)))) else (some false))) = some r := h
 clear h
 replace H := Option.bind_eq_some_iff.mp H
 obtain ⟨t530, A30, H⟩ := H
 replace H : (if t530 = true then ((tremaref01_Runes.f k l1).bind fun t531 => ((some (([] : List Int) : List Int)).bind fun y534 => (if y534.length + l0.length < 140737488355328 then ((some (y534 ++ l0 : List Int)).bind fun y537 => (if y537.length < 140737488355328 then ((some (y537 ++ [120] : List Int)).bind fun y540 => (if (t531.length : Int) > 0 then (if 0 < (t531.length : Int) then ((tremaref02_Opens.f k (rd t531 0)).bind fun t544 => (tremalaw04_SegJoins.j0 k y540 l1 (!t544))) else (none)) else (tremalaw04_SegJoins.j0 k y540 l1 false))) else (none))) else (none)))) else (some false)) = some r := H
 have A3 := Aside0.mk A30
 clear A30
 by_cases c4 : t530 = true
 ·subst c4
  have H1 : ((tremaref01_Runes.f k l1).bind fun t531 => ((some (([] : List Int) : List Int)).bind fun y534 => (if y534.length + l0.length < 140737488355328 then ((some (y534 ++ l0 : List Int)).bind fun y537 => (if y537.length < 140737488355328 then ((some (y537 ++ [120] : List Int)).bind fun y540 => (if (t531.length : Int) > 0 then (if 0 < (t531.length : Int) then ((tremaref02_Opens.f k (rd t531 0)).bind fun t544 => (tremalaw04_SegJoins.j0 k y540 l1 (!t544))) else (none)) else (tremalaw04_SegJoins.j0 k y540 l1 false))) else (none))) else (none)))) = some r := by rw [if_pos rfl] at H; exact H
  clear H
  have H := H1
  clear H1
  replace H := Option.bind_eq_some_iff.mp H
  obtain ⟨t531, A50, H⟩ := H
  replace H : ((some (([] : List Int) : List Int)).bind fun y534 => (if y534.length + l0.length < 140737488355328 then ((some (y534 ++ l0 : List Int)).bind fun y537 => (if y537.length < 140737488355328 then ((some (y537 ++ [120] : List Int)).bind fun y540 => (if (t531.length : Int) > 0 then (if 0 < (t531.length : Int) then ((tremaref02_Opens.f k (rd t531 0)).bind fun t544 => (tremalaw04_SegJoins.j0 k y540 l1 (!t544))) else (none)) else (tremalaw04_SegJoins.j0 k y540 l1 false))) else (none))) else (none))) = some r := H
  have A5 := Aside0.mk A50
  clear A50
  obtain ⟨y534, hy534⟩ : ∃ y_ : List Int, y_ = (([] : List Int)) := ⟨_, rfl⟩
  replace H : (if y534.length + l0.length < 140737488355328 then ((some (y534 ++ l0 : List Int)).bind fun y537 => (if y537.length < 140737488355328 then ((some (y537 ++ [120] : List Int)).bind fun y540 => (if (t531.length : Int) > 0 then (if 0 < (t531.length : Int) then ((tremaref02_Opens.f k (rd t531 0)).bind fun t544 => (tremalaw04_SegJoins.j0 k y540 l1 (!t544))) else (none)) else (tremalaw04_SegJoins.j0 k y540 l1 false))) else (none))) else (none)) = some r := by first | (rw [hy534]; with_reducible exact H) | (have H2_ := (Option.bind_some _ _).symm.trans H; rw [hy534]; with_reducible exact H2_) | (have H2_ := (Option.bind_some _ _).symm.trans H; with_reducible exact H2_) | with_reducible exact H | (rw [hy534]; exact H) | exact H
  have Ny534 := Aside0.mk hy534
  clear hy534
  by_cases c6 : y534.length + l0.length < 140737488355328
  ·rw [if_pos c6] at H
   have LMc6 := Aside0.mk c6
   clear c6
   obtain ⟨y537, hy537⟩ : ∃ y_ : List Int, y_ = (y534 ++ l0) := ⟨_, rfl⟩
   replace H : (if y537.length < 140737488355328 then ((some (y537 ++ [120] : List Int)).bind fun y540 => (if (t531.length : Int) > 0 then (if 0 < (t531.length : Int) then ((tremaref02_Opens.f k (rd t531 0)).bind fun t544 => (tremalaw04_SegJoins.j0 k y540 l1 (!t544))) else (none)) else (tremalaw04_SegJoins.j0 k y540 l1 false))) else (none)) = some r := by first | (rw [hy537]; with_reducible exact H) | (have H2_ := (Option.bind_some _ _).symm.trans H; rw [hy537]; with_reducible exact H2_) | (have H2_ := (Option.bind_some _ _).symm.trans H; with_reducible exact H2_) | with_reducible exact H | (rw [hy537]; exact H) | exact H
   have Ny537 := Aside0.mk hy537
   clear hy537
   by_cases c7 : y537.length < 140737488355328
   ·rw [if_pos c7] at H
    have LMc7 := Aside0.mk c7
    clear c7
    obtain ⟨y540, hy540⟩ : ∃ y_ : List Int, y_ = (y537 ++ [120]) := ⟨_, rfl⟩
    replace H : (if (t531.length : Int) > 0 then (if 0 < (t531.length : Int) then ((tremaref02_Opens.f k (rd t531 0)).bind fun t544 => (tremalaw04_SegJoins.j0 k y540 l1 (!t544))) else (none)) else (tremalaw04_SegJoins.j0 k y540 l1 false)) = some r := by first | (rw [hy540]; with_reducible exact H) | (have H2_ := (Option.bind_some _ _).symm.trans H; rw [hy540]; with_reducible exact H2_) | (have H2_ := (Option.bind_some _ _).symm.trans H; with_reducible exact H2_) | with_reducible exact H | (rw [hy540]; exact H) | exact H
    have Ny540 := Aside0.mk hy540
    clear hy540
    have HC8 := Aside0.mk H
    clear H
    go_enter Tryd.func18, Tryd.ntmps18
    go_upto_region 5 with (first | ((with_reducible refine gate_callee (f := 38) rfl ?_); refine goesL_ (some 6) rfl rfl Tryd.func38 (by kernel_rfl) rfl #[] rfl (by (try simp only [List.map_toArray, List.map_cons, List.map_nil]); first | done | rfl | (simp only [List.length_drop, List.length_take]; rfl)) ?_; (with_reducible refine (tremalaw04_fixed.calls  true _ A3.out (by first | exact HG.out | exact Va.G.below HG.out (by repeat (first | (with_reducible first | exact HB.out | apply below_alloc | apply pw_below_drewN | apply below_drew1) | exact HB.out)))).mono ?_); rintro e w9 ⟨rfl, hb⟩; refine ⟨_, rfl, ?_⟩; have n0_ := Aside0.mk (below_step (by repeat (first | (with_reducible first | exact HB.out | apply below_alloc | apply pw_below_drewN | apply below_drew1) | exact HB.out)) hb); clear HB; have HB := n0_; clear n0_; (try clear hb); (try clear hb2); (try clear hk); (try clear hi)) | ((with_reducible refine gate_callee (f := 28) rfl ?_); refine goesL_ (some 9) rfl rfl Tryd.func28 (by kernel_rfl) rfl #[.slice A1 l1.length c1] rfl (by (try simp only [List.map_toArray, List.map_cons, List.map_nil]); first | done | rfl | (simp only [List.length_drop, List.length_take]; rfl)) ?_; (with_reducible refine (tremaref01_Runes.calls k _ _ l1 t531 _ ?side1 ?side2 A5.out).mono ?_); (case side1 => repeat (first | exact (Kd.C_below HR1.out HB.out) | (with_reducible refine Kd.C_alloc ?_ _) | (with_reducible refine Kd.C_drewN ?_ _) | (with_reducible refine Kd.C_drew ?_))); (case side2 => exact HC1.out); rintro e w10 ⟨v532, rfl, ho0, hb⟩; refine ⟨_, rfl, ?_⟩; have n0_ := Aside0.mk (Kd.R_lower ho0 (below_size (by repeat (first | (with_reducible first | exact HB.out | apply below_alloc | apply pw_below_drewN | apply below_drew1) | exact HB.out)))); have n1_ := Aside0.mk (below_step (by repeat (first | (with_reducible first | exact HB.out | apply below_alloc | apply pw_below_drewN | apply below_drew1) | exact HB.out)) hb); clear HB; have HO533 := n0_; have HB := n1_; clear n0_ n1_; (try clear hb); (try clear hb2); (try clear hk); (try clear hi); (try clear ho0)) | ((with_reducible refine gate_dst (N := 10) rfl ?_); refine Kd.R_lit (Kd.int .u8) _ 5 ?hg (N := 10) ?hd (xs := ([] : List Int)) (inner := []) (ok := fun _ => True) (okp := fun _ => True) ?hr ?hp (fun _ hk => hk) trivial (Below.refl _ _) (Nat.le_refl _) (by simp) ?_; (case hd => rfl); (case hg => rfl); (case hr => first | (go_simp; done) | (go_simp; rfl)); (case hp => exact (Reps.none _ _)); intro v535 w11 ho12 hb hg_ hnew_; clear hg_ hnew_; (first | rw [← Ny534.out] at ho12 | (simp only [Int.reduceToNat] at ho12; rw [← Ny534.out] at ho12)); have n0_ := Aside0.mk (Kd.R_below (by (with_reducible repeat (first | apply Kd.R_alloc | apply Kd.R_drewN | apply Kd.R_drew)); exact HO533.out) hb); have n1_ := Aside0.mk (Kd.R_lower ho12 (below_size (by repeat (first | (with_reducible first | exact HB.out | apply below_alloc | apply pw_below_drewN | apply below_drew1) | exact HB.out)))); have n2_ := Aside0.mk (below_step (by repeat (first | (with_reducible first | exact HB.out | apply below_alloc | apply pw_below_drewN | apply below_drew1) | exact HB.out)) hb); clear HO533; clear HB; have HO533 := n0_; have HO536 := n1_; have HB := n2_; clear n0_ n1_ n2_; clear hb ho12) | ((with_reducible refine gate_builtin (b := .append) (xs := #[.tmp 10, .tmp 11]) rfl ?_); at_builtin; refine Kd.R_append_rows (Kd.int .u8) (w0 := w) w.heap.size rfl (.tmp 10) (.tmp 11) 27 5 (.int .u8 0) 1 rfl Tryd.underlying27 info5 rfl (by decide) (by omega) v535 y534 l0 _ _ _ (fun _ => True) (fun _ => False) rfl rfl ?aO ?aR (fun _ _ h => h) (fun _ h => h.elim) ?aF ?aB ?aS ?aL ?_; (case aR => repeat (first | exact (Kd.C_below HR0.out HB.out) | (with_reducible refine Kd.C_alloc ?_ _) | (with_reducible refine Kd.C_drewN ?_ _) | (with_reducible refine Kd.C_drew ?_))); (case aB => exact (by repeat (first | (with_reducible first | exact HB.out | apply below_alloc | apply pw_below_drewN | apply below_drew1) | exact HB.out))); (case aF => exact (fun _ _ => trivial)); (case aO => exact (by (with_reducible repeat (first | apply Kd.R_alloc | apply Kd.R_drewN | apply Kd.R_drew)); exact HO536.out)); (case aS => exact (below_size (by repeat (first | (with_reducible first | exact HB.out | apply below_alloc | apply pw_below_drewN | apply below_drew1) | exact HB.out)))); (case aL => have := LMc6.out; omega); intro v538 w13 ho hb hg hat; rw [← Ny537.out] at ho; have n0_ := Aside0.mk (Kd.R_over' (by (with_reducible repeat (first | apply Kd.R_alloc | apply Kd.R_drewN | apply Kd.R_drew)); exact HO533.out) (Kd.R_typed (by (with_reducible repeat (first | apply Kd.R_alloc | apply Kd.R_drewN | apply Kd.R_drew)); exact HO536.out)) (by decide) hg); have n1_ := Aside0.mk (hb); have n2_ := Aside0.mk (ho); clear HO533; clear HB; clear HO536; have HO533 := n0_; have HB := n1_; have HO539 := n2_; clear n0_ n1_ n2_; clear ho hb hg hat) | ((with_reducible refine gate_builtin (b := .append) (xs := #[.tmp 12, .tmp 13]) rfl ?_); at_builtin; refine Kd.R_append (Kd.int .u8) (w0 := w) w.heap.size rfl (.tmp 12) (.tmp 13) 27 5 (.int .u8 0) 1 rfl Tryd.underlying27 info5 rfl (by decide) (by omega) v538 y537 120 [.int .u8 120] (fun _ => True) (fun _ => False) rfl rfl ?aP (fun _ hk => hk.elim) ?aF ?aO ?aB ?aS ?aL ?_; (case aP => exact rfl); (case aB => exact (by repeat (first | (with_reducible first | exact HB.out | apply below_alloc | apply pw_below_drewN | apply below_drew1) | exact HB.out))); (case aF => exact (fun _ _ => trivial)); (case aO => exact (by (with_reducible repeat (first | apply Kd.R_alloc | apply Kd.R_drewN | apply Kd.R_drew)); exact HO539.out)); (case aS => exact (below_size (by repeat (first | (with_reducible first | exact HB.out | apply below_alloc | apply pw_below_drewN | apply below_drew1) | exact HB.out)))); (case aL => have := LMc7.out; omega); intro v541 w14 ho hb hg hat; rw [← Ny540.out] at ho; have n0_ := Aside0.mk (Kd.R_over' (by (with_reducible repeat (first | apply Kd.R_alloc | apply Kd.R_drewN | apply Kd.R_drew)); exact HO533.out) (Kd.R_typed (by (with_reducible repeat (first | apply Kd.R_alloc | apply Kd.R_drewN | apply Kd.R_drew)); exact HO539.out)) (by decide) hg); have n1_ := Aside0.mk (hb); have n2_ := Aside0.mk (ho); clear HO533; clear HB; clear HO539; have HO533 := n0_; have HB := n1_; have HO542 := n2_; clear n0_ n1_ n2_; clear ho hb hg hat))
    (try simp only [Act.put, List.setIfInBounds_toArray, List.set_cons_zero, List.set_cons_succ])
    go_cut [24] (fun v24 wc => ∃ (kq : Nat) (x24_7 : Bool), v24 = .bool x24_7 ∧ Aside0 (tremalaw04_SegJoins.j0 kq y540 l1 x24_7 = some r) ∧ Aside0 (kq ≤ k) ∧ Aside0 (Kd.R (Kd.int .u8) 5 wc w.heap.size (fun _ => True) v541 y540) ∧ Aside0 (Below w.heap.size w wc))
    case first =>
     have H := HC8.out
     clear HC8
     by_cases c15 : (t531.length : Int) > 0
     ·rw [if_pos c15] at H
      have c15b0 : decide (0 < (t531.length : Int)) = true := decide_eq_true c15
      have c15b1 : decide (0 < t531.length) = true := decide_eq_true (by omega)
      clear c15
      (first | rw [c15b0] | (simp only [i64_w, i32_w]; rw [c15b0]) | skip)
      by_cases c16 : 0 < (t531.length : Int)
      ·rw [if_pos c16] at H
       have c16b0 : decide (0 < (t531.length : Int)) = true := decide_eq_true c16
       have c16b1 : decide (0 < t531.length) = true := decide_eq_true (by omega)
       clear c16
       replace H := Option.bind_eq_some_iff.mp H
       obtain ⟨t544, A170, H⟩ := H
       replace H : (tremalaw04_SegJoins.j0 k y540 l1 (!t544)) = some r := H
       have A17 := Aside0.mk A170
       clear A170
       have H' := Aside0.mk H
       clear H
       obtain ⟨Ao18, co18, eo18⟩ := Kd.R_slice HO533.out
       subst eo18
       have p543 : 0 ≤ (0 : Int) := (by omega)
       have q543 : 0 < (t531.length : Int) := of_decide_eq_true (by first | (with_reducible assumption) | assumption)
       obtain ⟨ad543, e543, hx543_0⟩ := Kd.at_int (Kd.R_reads' HO533.out).2.2 0 p543 q543
       cases e543
       have qi543 : (0 < t531.length) = True := eq_true (by omega)
       (try rw [show ((0 : Int)).toNat = 0 from rfl] at hx543_0)
       (try rw [Addr.add_zero'] at hx543_0)
       replace p543 := eq_true p543
       replace q543 := eq_true q543
       go_wp2_with (first | (go_at_call 35; (with_reducible refine (tremaref02_Opens.calls k (rd t531 0) t544 _ A17.out).mono ?_); rintro e w19 ⟨rfl, hb⟩; have n0_ := Aside0.mk (Kd.R_below (by (with_reducible repeat (first | apply Kd.R_alloc | apply Kd.R_drewN | apply Kd.R_drew)); exact HO533.out) hb); have n1_ := Aside0.mk (Kd.R_below (by (with_reducible repeat (first | apply Kd.R_alloc | apply Kd.R_drewN | apply Kd.R_drew)); exact HO542.out) hb); have n2_ := Aside0.mk (below_step (by repeat (first | (with_reducible first | exact HB.out | apply below_alloc | apply pw_below_drewN | apply below_drew1) | exact HB.out)) hb); clear HO533; clear HO542; clear HB; have HO533 := n0_; have HO542 := n1_; have HB := n2_; clear n0_ n1_ n2_; (try clear hb); (try clear hb2); (try clear hk); (try clear hi)))
       go_meet
       case rel => exact ⟨_, (!t544), (by first | rfl | (simp; done) | (simp [*]; done)), H', ⟨by first | omega | exact Nat.le_refl _⟩, ⟨by (with_reducible repeat (first | apply Kd.R_alloc | apply Kd.R_drewN | apply Kd.R_drew)); exact HO542.out⟩, ⟨by repeat (first | (with_reducible first | exact HB.out | apply below_alloc | apply pw_below_drewN | apply below_drew1) | exact HB.out)⟩⟩
      ·rw [if_neg c16] at H
       exact absurd H (by simp)
     ·rw [if_neg c15] at H
      have c15b0 : decide (0 < (t531.length : Int)) = false := decide_eq_false c15
      have c15b1 : decide (0 < t531.length) = false := decide_eq_false (by omega)
      clear c15
      (first | rw [c15b0] | (simp only [i64_w, i32_w]; rw [c15b0]) | skip)
      have H' := Aside0.mk H
      clear H
      obtain ⟨Ao20, co20, eo20⟩ := Kd.R_slice HO533.out
      subst eo20
      go_wp2
      go_meet
      case rel => exact ⟨_, (false), (by first | rfl | (simp; done) | (simp [*]; done)), H', ⟨by first | omega | exact Nat.le_refl _⟩, ⟨by (with_reducible repeat (first | apply Kd.R_alloc | apply Kd.R_drewN | apply Kd.R_drew)); exact HO542.out⟩, ⟨by repeat (first | (with_reducible first | exact HB.out | apply below_alloc | apply pw_below_drewN | apply below_drew1) | exact HB.out)⟩⟩
    case rest =>
     clear HC8
     try clear c1
     try clear c2
     try clear p2
     try clear c3
     try clear c4
     try clear p5
     try clear q5
     try clear hx5
     try clear qi5
     try clear c6
     try clear c7
     try clear c15
     try clear c15b0
     try clear c15b1
     try clear c16
     try clear c16b0
     try clear c16b1
     try clear c18
     try clear hx543_0
     try clear p543
     try clear q543
     obtain ⟨kq, x24_7, rfl, HA, HJ7, HO_0, HB⟩ := hcut
     cases kq with
     | zero => exact absurd HA.out (by simp [tremalaw04_SegJoins.j0])
     | succ kj7 =>
      have H := HA.out
      clear HA
      simp only [tremalaw04_SegJoins.j0] at H
      by_cases c21 : x24_7 = true
      ·subst c21
       have H1 : (some true) = some r := by rw [if_pos rfl] at H; exact H
       clear H
       have H := H1
       clear H1
       obtain rfl := Option.some.inj H
       go_wp2
       go_ret
       exact ⟨by first | rfl | (simp [errW_none, errW_some] <;> rfl) | (simp [*, errW_none, errW_some] <;> rfl), by repeat (first | (with_reducible first | exact HB.out | apply below_alloc | apply pw_below_drewN | apply below_drew1) | exact HB.out)⟩
      ·replace c21 := Bool.eq_false_iff.mpr c21
       subst c21
       have H1 : ((some (([] : List Int) : List Int)).bind fun y545 => (if y545.length + y540.length < 140737488355328 then ((some (y545 ++ y540 : List Int)).bind fun y548 => (if y548.length + l1.length < 140737488355328 then ((seg_Texts.f (y548 ++ l1)).bind fun t554 => ((seg_Texts.f y540).bind fun t557 => ((seg_Texts.f l1).bind fun t560 => (if t557.length + t560.length < 8796093022208 then ((tremaref01_SameTexts.f kj7 t554 (t557 ++ t560)).bind fun t566 => (some t566)) else (none))))) else (none))) else (none))) = some r := by rw [if_neg (show ¬ (false = true) by decide)] at H; exact H
       clear H
       have H := H1
       clear H1
       obtain ⟨y545, hy545⟩ : ∃ y_ : List Int, y_ = (([] : List Int)) := ⟨_, rfl⟩
       replace H : (if y545.length + y540.length < 140737488355328 then ((some (y545 ++ y540 : List Int)).bind fun y548 => (if y548.length + l1.length < 140737488355328 then ((seg_Texts.f (y548 ++ l1)).bind fun t554 => ((seg_Texts.f y540).bind fun t557 => ((seg_Texts.f l1).bind fun t560 => (if t557.length + t560.length < 8796093022208 then ((tremaref01_SameTexts.f kj7 t554 (t557 ++ t560)).bind fun t566 => (some t566)) else (none))))) else (none))) else (none)) = some r := by first | (rw [hy545]; with_reducible exact H) | (have H2_ := (Option.bind_some _ _).symm.trans H; rw [hy545]; with_reducible exact H2_) | (have H2_ := (Option.bind_some _ _).symm.trans H; with_reducible exact H2_) | with_reducible exact H | (rw [hy545]; exact H) | exact H
       have Ny545 := Aside0.mk hy545
       clear hy545
       by_cases c22 : y545.length + y540.length < 140737488355328
       ·rw [if_pos c22] at H
        have LMc22 := Aside0.mk c22
        clear c22
        obtain ⟨y548, hy548⟩ : ∃ y_ : List Int, y_ = (y545 ++ y540) := ⟨_, rfl⟩
        replace H : (if y548.length + l1.length < 140737488355328 then ((seg_Texts.f (y548 ++ l1)).bind fun t554 => ((seg_Texts.f y540).bind fun t557 => ((seg_Texts.f l1).bind fun t560 => (if t557.length + t560.length < 8796093022208 then ((tremaref01_SameTexts.f kj7 t554 (t557 ++ t560)).bind fun t566 => (some t566)) else (none))))) else (none)) = some r := by first | (rw [hy548]; with_reducible exact H) | (have H2_ := (Option.bind_some _ _).symm.trans H; rw [hy548]; with_reducible exact H2_) | (have H2_ := (Option.bind_some _ _).symm.trans H; with_reducible exact H2_) | with_reducible exact H | (rw [hy548]; exact H) | exact H
        have Ny548 := Aside0.mk hy548
        clear hy548
        by_cases c23 : y548.length + l1.length < 140737488355328
        ·rw [if_pos c23] at H
         have LMc23 := Aside0.mk c23
         clear c23
         obtain ⟨y551, hy551⟩ : ∃ y_ : List Int, y_ = (y548 ++ l1) := ⟨_, rfl⟩
         replace H : ((seg_Texts.f y551).bind fun t554 => ((seg_Texts.f y540).bind fun t557 => ((seg_Texts.f l1).bind fun t560 => (if t557.length + t560.length < 8796093022208 then ((tremaref01_SameTexts.f kj7 t554 (t557 ++ t560)).bind fun t566 => (some t566)) else (none))))) = some r := by first | (rw [hy551]; with_reducible exact H) | (have H2_ := (Option.bind_some _ _).symm.trans H; rw [hy551]; with_reducible exact H2_) | (have H2_ := (Option.bind_some _ _).symm.trans H; with_reducible exact H2_) | with_reducible exact H | (rw [hy551]; exact H) | exact H
         have Ny551 := Aside0.mk hy551
         clear hy551
         replace H := Option.bind_eq_some_iff.mp H
         obtain ⟨t554, A240, H⟩ := H
         replace H : ((seg_Texts.f y540).bind fun t557 => ((seg_Texts.f l1).bind fun t560 => (if t557.length + t560.length < 8796093022208 then ((tremaref01_SameTexts.f kj7 t554 (t557 ++ t560)).bind fun t566 => (some t566)) else (none)))) = some r := H
         have A24 := Aside0.mk A240
         clear A240
         replace H := Option.bind_eq_some_iff.mp H
         obtain ⟨t557, A250, H⟩ := H
         replace H : ((seg_Texts.f l1).bind fun t560 => (if t557.length + t560.length < 8796093022208 then ((tremaref01_SameTexts.f kj7 t554 (t557 ++ t560)).bind fun t566 => (some t566)) else (none))) = some r := H
         have A25 := Aside0.mk A250
         clear A250
         replace H := Option.bind_eq_some_iff.mp H
         obtain ⟨t560, A260, H⟩ := H
         replace H : (if t557.length + t560.length < 8796093022208 then ((tremaref01_SameTexts.f kj7 t554 (t557 ++ t560)).bind fun t566 => (some t566)) else (none)) = some r := H
         have A26 := Aside0.mk A260
         clear A260
         by_cases c27 : t557.length + t560.length < 8796093022208
         ·rw [if_pos c27] at H
          have LMc27 := Aside0.mk c27
          clear c27
          obtain ⟨y563, hy563⟩ : ∃ y_ : List ByteArray, y_ = (t557 ++ t560) := ⟨_, rfl⟩
          replace H : ((tremaref01_SameTexts.f kj7 t554 y563).bind fun t566 => (some t566)) = some r := by first | (rw [hy563]; with_reducible exact H) | (have H2_ := (Option.bind_some _ _).symm.trans H; rw [hy563]; with_reducible exact H2_) | (have H2_ := (Option.bind_some _ _).symm.trans H; with_reducible exact H2_) | with_reducible exact H | (rw [hy563]; exact H) | exact H
          have Ny563 := Aside0.mk hy563
          clear hy563
          replace H := Option.bind_eq_some_iff.mp H
          obtain ⟨t566, A280, H⟩ := H
          replace H : (some t566) = some r := H
          have A28 := Aside0.mk A280
          clear A280
          obtain rfl := Option.some.inj H
          go_wp2_with (first | ((with_reducible refine gate_dst (N := 25) rfl ?_); refine Kd.R_lit (Kd.int .u8) _ 5 ?hg (N := 25) ?hd (xs := ([] : List Int)) (inner := []) (ok := fun _ => True) (okp := fun _ => True) ?hr ?hp (fun _ hk => hk) trivial (Below.refl _ _) (Nat.le_refl _) (by simp) ?_; (case hd => rfl); (case hg => rfl); (case hr => first | (go_simp; done) | (go_simp; rfl)); (case hp => exact (Reps.none _ _)); intro v546 w29 ho30 hb hg_ hnew_; clear hg_ hnew_; (first | rw [← Ny545.out] at ho30 | (simp only [Int.reduceToNat] at ho30; rw [← Ny545.out] at ho30)); have n0_ := Aside0.mk (Kd.R_elder' (by (with_reducible repeat (first | apply Kd.R_alloc | apply Kd.R_drewN | apply Kd.R_drew)); exact HO_0.out) (Kd.R_base ho30) hb); have n1_ := Aside0.mk (Kd.R_lower (Kd.R_new' ho30 (Kd.R_lt (by (with_reducible repeat (first | apply Kd.R_alloc | apply Kd.R_drewN | apply Kd.R_drew)); exact HO_0.out))) (below_size (by repeat (first | (with_reducible first | exact HB.out | apply below_alloc | apply pw_below_drewN | apply below_drew1) | exact HB.out)))); have n2_ := Aside0.mk (below_step (by repeat (first | (with_reducible first | exact HB.out | apply below_alloc | apply pw_below_drewN | apply below_drew1) | exact HB.out)) hb); clear HO_0; clear HB; have HO_0 := n0_; have HO547 := n1_; have HB := n2_; clear n0_ n1_ n2_; clear hb ho30; obtain ⟨Ao32, co32, eo32⟩ := Kd.R_slice HO_0.out; subst eo32) | ((with_reducible refine gate_builtin (b := .append) (xs := #[.tmp 25, .tmp 26]) rfl ?_); at_builtin; refine Kd.R_append_rows (Kd.int .u8) (w0 := w) w.heap.size rfl (.tmp 25) (.tmp 26) 27 5 (.int .u8 0) 1 rfl Tryd.underlying27 info5 rfl (by decide) (by omega) v546 y545 y540 _ _ _ (fun k_ => some k_ ≠ (.slice Ao32 y540.length co32 : Value).ownBlock) (fun _ => False) rfl rfl ?aO ?aR (fun _ _ h => h) (fun _ h => h.elim) ?aF ?aB ?aS ?aL ?_; (case aR => repeat (first | exact (Kd.R_reads' HO_0.out).2.2 | (with_reducible refine Kd.C_alloc ?_ _) | (with_reducible refine Kd.C_drewN ?_ _) | (with_reducible refine Kd.C_drew ?_))); (case aB => exact (by repeat (first | (with_reducible first | exact HB.out | apply below_alloc | apply pw_below_drewN | apply below_drew1) | exact HB.out))); (case aF => exact (fun k_ hk => Kd.fresh' (Kd.R_lt (by (with_reducible repeat (first | apply Kd.R_alloc | apply Kd.R_drewN | apply Kd.R_drew)); exact HO_0.out)) k_ hk)); (case aO => exact (by (with_reducible repeat (first | apply Kd.R_alloc | apply Kd.R_drewN | apply Kd.R_drew)); exact Kd.R_mono HO547.out (fun _ hk => hk.2))); (case aS => exact (below_size (by repeat (first | (with_reducible first | exact HB.out | apply below_alloc | apply pw_below_drewN | apply below_drew1) | exact HB.out)))); (case aL => have := LMc22.out; omega); intro v549 w31 ho hb hg hat; rw [← Ny548.out] at ho; have n0_ := Aside0.mk (Kd.R_after (ok := (fun _ => True)) (by (with_reducible repeat (first | apply Kd.R_alloc | apply Kd.R_drewN | apply Kd.R_drew)); exact HO_0.out) hg hat); have n1_ := Aside0.mk (hb); have n2_ := Aside0.mk (ho); clear HO_0; clear HB; clear HO547; have HO_0 := n0_; have HB := n1_; have HO550 := n2_; clear n0_ n1_ n2_; clear ho hb hg hat) | ((with_reducible refine gate_builtin (b := .append) (xs := #[.tmp 27, .tmp 28]) rfl ?_); at_builtin; refine Kd.R_append_rows (Kd.int .u8) (w0 := w) w.heap.size rfl (.tmp 27) (.tmp 28) 27 5 (.int .u8 0) 1 rfl Tryd.underlying27 info5 rfl (by decide) (by omega) v549 y548 l1 _ _ _ (fun k_ => some k_ ≠ (.slice Ao32 y540.length co32 : Value).ownBlock) (fun _ => False) rfl rfl ?aO ?aR (fun _ _ h => h) (fun _ h => h.elim) ?aF ?aB ?aS ?aL ?_; (case aR => repeat (first | exact (Kd.C_below HR1.out HB.out) | (with_reducible refine Kd.C_alloc ?_ _) | (with_reducible refine Kd.C_drewN ?_ _) | (with_reducible refine Kd.C_drew ?_))); (case aB => exact (by repeat (first | (with_reducible first | exact HB.out | apply below_alloc | apply pw_below_drewN | apply below_drew1) | exact HB.out))); (case aF => exact (fun k_ hk => Kd.fresh' (Kd.R_lt (by (with_reducible repeat (first | apply Kd.R_alloc | apply Kd.R_drewN | apply Kd.R_drew)); exact HO_0.out)) k_ hk)); (case aO => exact (by (with_reducible repeat (first | apply Kd.R_alloc | apply Kd.R_drewN | apply Kd.R_drew)); exact HO550.out)); (case aS => exact (below_size (by repeat (first | (with_reducible first | exact HB.out | apply below_alloc | apply pw_below_drewN | apply below_drew1) | exact HB.out)))); (case aL => have := LMc23.out; omega); intro v552 w33 ho hb hg hat; rw [← Ny551.out] at ho; have n0_ := Aside0.mk (Kd.R_after (ok := (fun _ => True)) (by (with_reducible repeat (first | apply Kd.R_alloc | apply Kd.R_drewN | apply Kd.R_drew)); exact HO_0.out) hg hat); have n1_ := Aside0.mk (hb); have n2_ := Aside0.mk (ho); clear HO_0; clear HB; clear HO550; have HO_0 := n0_; have HB := n1_; have HO553 := n2_; clear n0_ n1_ n2_; clear ho hb hg hat; obtain ⟨Ao34, co34, eo34⟩ := Kd.R_slice HO553.out; subst eo34) | ((with_reducible refine gate_callee (f := 43) rfl ?_); refine goesL_ (some 30) rfl rfl Tryd.func43 (by kernel_rfl) rfl #[.slice Ao34 y551.length co34] rfl (by (try simp only [List.map_toArray, List.map_cons, List.map_nil]); first | done | rfl | (simp only [List.length_drop, List.length_take]; rfl)) ?_; (with_reducible refine (seg_Texts.calls _ _ y551 t554 _ ?side1 ?side2 A24.out (by first | exact HG.out | exact Va.G.below HG.out (by repeat (first | (with_reducible first | exact HB.out | apply below_alloc | apply pw_below_drewN | apply below_drew1) | exact HB.out)))).mono ?_); (case side1 => repeat (first | exact (Kd.R_reads' HO553.out).2.2 | (with_reducible refine Kd.C_alloc ?_ _) | (with_reducible refine Kd.C_drewN ?_ _) | (with_reducible refine Kd.C_drew ?_))); (case side2 => exact (Kd.R_reads' HO553.out).2.1); rintro e w35 ⟨v555, rfl, ho0, hb⟩; refine ⟨_, rfl, ?_⟩; have n0_ := Aside0.mk (Kd.R_below (by (with_reducible repeat (first | apply Kd.R_alloc | apply Kd.R_drewN | apply Kd.R_drew)); exact HO_0.out) hb); have n1_ := Aside0.mk (Kd.R_below (by (with_reducible repeat (first | apply Kd.R_alloc | apply Kd.R_drewN | apply Kd.R_drew)); exact HO553.out) hb); have n2_ := Aside0.mk (Kd.R_lower ho0 (below_size (by repeat (first | (with_reducible first | exact HB.out | apply below_alloc | apply pw_below_drewN | apply below_drew1) | exact HB.out)))); have n3_ := Aside0.mk (below_step (by repeat (first | (with_reducible first | exact HB.out | apply below_alloc | apply pw_below_drewN | apply below_drew1) | exact HB.out)) hb); clear HO_0; clear HO553; clear HB; have HO_0 := n0_; have HO553 := n1_; have HO556 := n2_; have HB := n3_; clear n0_ n1_ n2_ n3_; (try clear hb); (try clear hb2); (try clear hk); (try clear hi); (try clear ho0)) | ((with_reducible refine gate_callee (f := 43) rfl ?_); refine goesL_ (some 32) rfl rfl Tryd.func43 (by kernel_rfl) rfl #[.slice Ao32 y540.length co32] rfl (by (try simp only [List.map_toArray, List.map_cons, List.map_nil]); first | done | rfl | (simp only [List.length_drop, List.length_take]; rfl)) ?_; (with_reducible refine (seg_Texts.calls _ _ y540 t557 _ ?side1 ?side2 A25.out (by first | exact HG.out | exact Va.G.below HG.out (by repeat (first | (with_reducible first | exact HB.out | apply below_alloc | apply pw_below_drewN | apply below_drew1) | exact HB.out)))).mono ?_); (case side1 => repeat (first | exact (Kd.R_reads' HO_0.out).2.2 | (with_reducible refine Kd.C_alloc ?_ _) | (with_reducible refine Kd.C_drewN ?_ _) | (with_reducible refine Kd.C_drew ?_))); (case side2 => exact (Kd.R_reads' HO_0.out).2.1); rintro e w36 ⟨v558, rfl, ho0, hb⟩; refine ⟨_, rfl, ?_⟩; have n0_ := Aside0.mk (Kd.R_below (by (with_reducible repeat (first | apply Kd.R_alloc | apply Kd.R_drewN | apply Kd.R_drew)); exact HO_0.out) hb); have n1_ := Aside0.mk (Kd.R_below (by (with_reducible repeat (first | apply Kd.R_alloc | apply Kd.R_drewN | apply Kd.R_drew)); exact HO553.out) hb); have n2_ := Aside0.mk (Kd.R_elder' (by (with_reducible repeat (first | apply Kd.R_alloc | apply Kd.R_drewN | apply Kd.R_drew)); exact HO556.out) (Kd.R_base ho0) hb); have n3_ := Aside0.mk (Kd.R_lower (Kd.R_new' ho0 (Kd.R_lt (by (with_reducible repeat (first | apply Kd.R_alloc | apply Kd.R_drewN | apply Kd.R_drew)); exact HO556.out))) (below_size (by repeat (first | (with_reducible first | exact HB.out | apply below_alloc | apply pw_below_drewN | apply below_drew1) | exact HB.out)))); have n4_ := Aside0.mk (below_step (by repeat (first | (with_reducible first | exact HB.out | apply below_alloc | apply pw_below_drewN | apply below_drew1) | exact HB.out)) hb); clear HO_0; clear HO553; clear HO556; clear HB; have HO_0 := n0_; have HO553 := n1_; have HO556 := n2_; have HO559 := n3_; have HB := n4_; clear n0_ n1_ n2_ n3_ n4_; (try clear hb); (try clear hb2); (try clear hk); (try clear hi); (try clear ho0)) | ((with_reducible refine gate_callee (f := 43) rfl ?_); refine goesL_ (some 34) rfl rfl Tryd.func43 (by kernel_rfl) rfl #[.slice A1 l1.length c1] rfl (by (try simp only [List.map_toArray, List.map_cons, List.map_nil]); first | done | rfl | (simp only [List.length_drop, List.length_take]; rfl)) ?_; (with_reducible refine (seg_Texts.calls _ _ l1 t560 _ ?side1 ?side2 A26.out (by first | exact HG.out | exact Va.G.below HG.out (by repeat (first | (with_reducible first | exact HB.out | apply below_alloc | apply pw_below_drewN | apply below_drew1) | exact HB.out)))).mono ?_); (case side1 => repeat (first | exact (Kd.C_below HR1.out HB.out) | (with_reducible refine Kd.C_alloc ?_ _) | (with_reducible refine Kd.C_drewN ?_ _) | (with_reducible refine Kd.C_drew ?_))); (case side2 => exact HC1.out); rintro e w37 ⟨v561, rfl, ho0, hb⟩; refine ⟨_, rfl, ?_⟩; have n0_ := Aside0.mk (Kd.R_below (by (with_reducible repeat (first | apply Kd.R_alloc | apply Kd.R_drewN | apply Kd.R_drew)); exact HO_0.out) hb); have n1_ := Aside0.mk (Kd.R_below (by (with_reducible repeat (first | apply Kd.R_alloc | apply Kd.R_drewN | apply Kd.R_drew)); exact HO553.out) hb); have n2_ := Aside0.mk (Kd.R_elder' (by (with_reducible repeat (first | apply Kd.R_alloc | apply Kd.R_drewN | apply Kd.R_drew)); exact HO556.out) (Kd.R_base ho0) hb); have n3_ := Aside0.mk (Kd.R_elder' (by (with_reducible repeat (first | apply Kd.R_alloc | apply Kd.R_drewN | apply Kd.R_drew)); exact HO559.out) (Kd.R_base ho0) hb); have n4_ := Aside0.mk (Kd.R_lower (Kd.R_new' (Kd.R_new' ho0 (Kd.R_lt (by (with_reducible repeat (first | apply Kd.R_alloc | apply Kd.R_drewN | apply Kd.R_drew)); exact HO556.out))) (Kd.R_lt (by (with_reducible repeat (first | apply Kd.R_alloc | apply Kd.R_drewN | apply Kd.R_drew)); exact HO559.out))) (below_size (by repeat (first | (with_reducible first | exact HB.out | apply below_alloc | apply pw_below_drewN | apply below_drew1) | exact HB.out)))); have n5_ := Aside0.mk (below_step (by repeat (first | (with_reducible first | exact HB.out | apply below_alloc | apply pw_below_drewN | apply below_drew1) | exact HB.out)) hb); clear HO_0; clear HO553; clear HO556; clear HO559; clear HB; have HO_0 := n0_; have HO553 := n1_; have HO556 := n2_; have HO559 := n3_; have HO562 := n4_; have HB := n5_; clear n0_ n1_ n2_ n3_ n4_ n5_; (try clear hb); (try clear hb2); (try clear hk); (try clear hi); (try clear ho0); obtain ⟨Ao39, co39, eo39⟩ := Kd.R_slice HO562.out; subst eo39) | ((with_reducible refine gate_builtin (b := .append) (xs := #[.tmp 32, .tmp 34]) rfl ?_); at_builtin; refine Kd.R_append_rows Kd.string (w0 := w) w.heap.size rfl (.tmp 32) (.tmp 34) 53 9 (.string ⟨#[]⟩) 16 rfl Tryd.underlying53 info9 rfl (by decide) (by omega) v558 t557 t560 _ _ _ (fun k_ => some k_ ≠ (v555 : Value).ownBlock ∧ some k_ ≠ (.slice Ao39 t560.length co39 : Value).ownBlock) (fun _ => False) rfl rfl ?aO ?aR (fun _ _ h => h) (fun _ h => h.elim) ?aF ?aB ?aS ?aL ?_; (case aR => repeat (first | exact (Kd.R_reads' HO562.out).2.2 | (with_reducible refine Kd.C_alloc ?_ _) | (with_reducible refine Kd.C_drewN ?_ _) | (with_reducible refine Kd.C_drew ?_))); (case aB => exact (by repeat (first | (with_reducible first | exact HB.out | apply below_alloc | apply pw_below_drewN | apply below_drew1) | exact HB.out))); (case aF => exact (fun k_ hk => ⟨Kd.fresh' (Kd.R_lt (by (with_reducible repeat (first | apply Kd.R_alloc | apply Kd.R_drewN | apply Kd.R_drew)); exact HO556.out)) k_ hk, Kd.fresh' (Kd.R_lt (by (with_reducible repeat (first | apply Kd.R_alloc | apply Kd.R_drewN | apply Kd.R_drew)); exact HO562.out)) k_ hk⟩)); (case aO => exact (by (with_reducible repeat (first | apply Kd.R_alloc | apply Kd.R_drewN | apply Kd.R_drew)); exact Kd.R_mono HO559.out (fun _ hk => ⟨hk.1.2, hk.2⟩))); (case aS => exact (below_size (by repeat (first | (with_reducible first | exact HB.out | apply below_alloc | apply pw_below_drewN | apply below_drew1) | exact HB.out)))); (case aL => have := LMc27.out; omega); intro v564 w38 ho hb hg hat; rw [← Ny563.out] at ho; have n0_ := Aside0.mk (Kd.R_over' (by (with_reducible repeat (first | apply Kd.R_alloc | apply Kd.R_drewN | apply Kd.R_drew)); exact HO_0.out) (Kd.R_typed (by (with_reducible repeat (first | apply Kd.R_alloc | apply Kd.R_drewN | apply Kd.R_drew)); exact HO559.out)) (by decide) hg); have n1_ := Aside0.mk (Kd.R_over' (by (with_reducible repeat (first | apply Kd.R_alloc | apply Kd.R_drewN | apply Kd.R_drew)); exact HO553.out) (Kd.R_typed (by (with_reducible repeat (first | apply Kd.R_alloc | apply Kd.R_drewN | apply Kd.R_drew)); exact HO559.out)) (by decide) hg); have n2_ := Aside0.mk (Kd.R_after (ok := (fun k_ => some k_ ≠ (.slice Ao39 t560.length co39 : Value).ownBlock)) (by (with_reducible repeat (first | apply Kd.R_alloc | apply Kd.R_drewN | apply Kd.R_drew)); exact Kd.R_mono HO556.out (fun _ hk => ⟨hk.2, hk.1.2⟩)) hg hat); have n3_ := Aside0.mk (Kd.R_after (ok := (fun k_ => some k_ ≠ (v555 : Value).ownBlock)) (by (with_reducible repeat (first | apply Kd.R_alloc | apply Kd.R_drewN | apply Kd.R_drew)); exact Kd.R_mono HO562.out (fun _ hk => ⟨hk.1.2, hk.2⟩)) hg hat); have n4_ := Aside0.mk (hb); have n5_ := Aside0.mk (ho); clear HO_0; clear HO553; clear HO556; clear HO562; clear HB; clear HO559; have HO_0 := n0_; have HO553 := n1_; have HO556 := n2_; have HO562 := n3_; have HB := n4_; have HO565 := n5_; clear n0_ n1_ n2_ n3_ n4_ n5_; clear ho hb hg hat; obtain ⟨Ao40, co40, eo40⟩ := Kd.R_slice HO556.out; subst eo40; obtain ⟨Ao41, co41, eo41⟩ := Kd.R_slice HO565.out; subst eo41) | ((with_reducible refine gate_callee (f := 42) rfl ?_); refine goesL_ (some 36) rfl rfl Tryd.func42 (by kernel_rfl) rfl #[.slice Ao40 t554.length co40, .slice Ao41 y563.length co41] rfl (by (try simp only [List.map_toArray, List.map_cons, List.map_nil]); first | done | rfl | (simp only [List.length_drop, List.length_take]; rfl)) ?_; (with_reducible refine (tremaref01_SameTexts.calls kj7 _ _ t554 _ _ y563 t566 _ ?side1 ?side2 ?side3 ?side4 A28.out).mono ?_); (case side1 => repeat (first | exact (Kd.R_reads' HO556.out).2.2 | (with_reducible refine Kd.C_alloc ?_ _) | (with_reducible refine Kd.C_drewN ?_ _) | (with_reducible refine Kd.C_drew ?_))); (case side2 => exact (Kd.R_reads' HO556.out).2.1); (case side3 => repeat (first | exact (Kd.R_reads' HO565.out).2.2 | (with_reducible refine Kd.C_alloc ?_ _) | (with_reducible refine Kd.C_drewN ?_ _) | (with_reducible refine Kd.C_drew ?_))); (case side4 => exact (Kd.R_reads' HO565.out).2.1); rintro e w' ⟨rfl, ⟨nd, rfl⟩⟩; refine ⟨_, rfl, ?_⟩))
          go_ret
          exact ⟨by first | rfl | (simp [errW_none, errW_some] <;> rfl) | (simp [*, errW_none, errW_some] <;> rfl), by repeat (first | (with_reducible first | exact HB.out | apply below_alloc | apply pw_below_drewN | apply below_drew1) | exact HB.out)⟩
         ·rw [if_neg c27] at H
          exact absurd H (by simp)
        ·rw [if_neg c23] at H
         exact absurd H (by simp)
       ·rw [if_neg c22] at H
        exact absurd H (by simp)
   ·rw [if_neg c7] at H
    exact absurd H (by simp)
  ·rw [if_neg c6] at H
   exact absurd H (by simp)
 ·replace c4 := Bool.eq_false_iff.mpr c4
  subst c4
  have H1 : (some false) = some r := by rw [if_neg (show ¬ (false = true) by decide)] at H; exact H
  clear H
  have H := H1
  clear H1
  obtain rfl := Option.some.inj H
  go_enter Tryd.func18, Tryd.ntmps18
  go_wp2_with (first | ((with_reducible refine gate_callee (f := 38) rfl ?_); refine goesL_ (some 6) rfl rfl Tryd.func38 (by kernel_rfl) rfl #[] rfl (by (try simp only [List.map_toArray, List.map_cons, List.map_nil]); first | done | rfl | (simp only [List.length_drop, List.length_take]; rfl)) ?_; (with_reducible refine (tremalaw04_fixed.calls  false _ A3.out (by first | exact HG.out | exact Va.G.below HG.out (by repeat (first | (with_reducible first | exact HB.out | apply below_alloc | apply pw_below_drewN | apply below_drew1) | exact HB.out)))).mono ?_); rintro e w42 ⟨rfl, hb⟩; refine ⟨_, rfl, ?_⟩; have n0_ := Aside0.mk (below_step (by repeat (first | (with_reducible first | exact HB.out | apply below_alloc | apply pw_below_drewN | apply below_drew1) | exact HB.out)) hb); clear HB; have HB := n0_; clear n0_; (try clear hb); (try clear hb2); (try clear hk); (try clear hi)))
  go_ret
  exact ⟨by first | rfl | (simp [errW_none, errW_some] <;> rfl) | (simp [*, errW_none, errW_some] <;> rfl), by repeat (first | (with_reducible first | exact HB.out | apply below_alloc | apply pw_below_drewN | apply below_drew1) | exact HB.out)⟩
end Go.Proofs.YtiggjbclbdikmaaDoor.X
namespace Go.Proofs.YtiggjbclbdikmaaDoor.Sgu
set_option linter.unusedVariables false
set_option linter.unusedSimpArgs false
open Go.Proofs.YtiggjbclbdikmaaDoor.Ux (Bytes)
open Go.Proofs.YtiggjbclbdikmaaDoor.Ve (opn)
open Go.Proofs.YtiggjbclbdikmaaDoor.Ot (rns)
open Go.RowKit Go.Proofs.YtiggjbclbdikmaaDoorW.PrintWords Go.Proofs.YtiggjbclbdikmaaDoor.Ev0 Go.Proofs.YtiggjbclbdikmaaDoor.X Go.Proofs.YtiggjbclbdikmaaDoor.Oa Go.Proofs.YtiggjbclbdikmaaDoor.Ob Go.Proofs.YtiggjbclbdikmaaDoor.Vp0 Go.Proofs.YtiggjbclbdikmaaDoor.Vr Go.Proofs.YtiggjbclbdikmaaDoor.Vu Go.Proofs.YtiggjbclbdikmaaDoor.Sgd Go.Proofs.YtiggjbclbdikmaaDoor.Sgt
theorem cutT_len : ∀ (t rs : List Int), (cutT t rs).length ≤ t.length + 1
  | [], rs => by simp [cutT]
  | x :: t, rs => by
    rw [cutT]
    have h1 := cutT_len t [x]
    have h2 := cutT_len t (rs ++ [x])
    split <;> simp only [List.length_cons] <;> omega
theorem cutTS_len (r : List Int) : (cutTS r).length ≤ r.length := by
  cases r with
  | nil => simp [cutTS]
  | cons x t => exact cutT_len t [x]
theorem rns_len (b : List Int) : (rns b).length ≤ b.length := by unfold rns; rw [List.length_map]; exact Ud.full_len b
theorem textsE (b : List Int) (hB : Bytes b) (hl : b.length ≤ 13000000) : seg_Texts.f b = some (cutTS (rns b)) := by
  unfold seg_Texts.f
  rw [if_pos ⟨Sgr.bytesB_mk hB, hl⟩, texts_rns b hB (by omega)]
theorem SegJoins (l : List Int) (hwf : ∀ x ∈ l, (Lit.int .u8 x).wf = true) (hl : l.length ≤ 1048576) (m : List Int) (hwm : ∀ x ∈ m, (Lit.int .u8 x).wf = true) (hm : m.length ≤ 1048576) : ∃ k, tremalaw04_SegJoins.f k l m = some true := by
  have hb := Ot.wf_bytes hwf
  have hc := Ot.wf_bytes hwm
  have h32 : ∀ x ∈ rns m, I32 x := Ot.runes32 m hc
  have hbl : Bytes (l ++ [120]) := by
    intro x hx
    rcases List.mem_append.1 hx with h | h
    · exact hb x h
    · rw [List.mem_singleton.1 h]; decide
  have hball : Bytes (l ++ [120] ++ m) := by
    intro x hx
    rcases List.mem_append.1 hx with h | h
    · exact hbl x h
    · exact hc x h
  have hll : (l ++ [120]).length = l.length + 1 := by simp
  have hla : (l ++ [120] ++ m).length = l.length + 1 + m.length := by simp; omega
  have go : (∀ x t, rns m = x :: t → opn x = true) → Ev (fun k => tremalaw04_SegJoins.j0 k (l ++ [120]) m false) true := by
    intro ho
    refine Ev.step (fun k => tremalaw04_SegJoins.j0.eq_2 ..) ?_
    have e1 := textsE (l ++ [120] ++ m) hball (by omega)
    have e2 := textsE (l ++ [120]) hbl (by omega)
    have e3 := textsE m hc (by omega)
    have n1 := cutTS_len (rns (l ++ [120]))
    have n2 := cutTS_len (rns m)
    have n3 := rns_len (l ++ [120])
    have n4 := rns_len m
    have n5 := cutTS_len (rns (l ++ [120] ++ m))
    have n6 := rns_len (l ++ [120] ++ m)
    have hj : cutTS (rns (l ++ [120] ++ m)) = cutTS (rns (l ++ [120])) ++ cutTS (rns m) := by
      rw [rns_snoc l m 120 (by decide)]
      exact cutTS_app _ _ ho
    simp only [Bool.false_eq_true, if_false, Option.bind_some, List.length_nil, List.nil_append, if_pos (show 0 + (l ++ [120]).length < 140737488355328 by omega), if_pos (show (l ++ [120]).length + m.length < 140737488355328 by omega), e1, e2, e3, if_pos (show (cutTS (rns (l ++ [120]))).length + (cutTS (rns m)).length < 8796093022208 by omega)]
    refine Ev.bind (Sgr.sameTEv _ _ (by omega)) ?_
    rw [decide_eq_true hj]
    exact Ev.now _
  apply Ev.rounds (g := fun k => tremalaw04_SegJoins.f k l m)
  unfold tremalaw04_SegJoins.f tremalaw04_fixed.f
  simp only [Option.bind_some, if_true]
  refine Ev.bind (Ot.runesEv m hc (by omega)) ?_
  simp only [List.length_nil, List.nil_append, if_pos (show 0 + l.length < 140737488355328 by omega), if_pos (show l.length < 140737488355328 by omega)]
  cases hr : rns m with
  | nil =>
    simp only [List.length_nil, if_neg (show ¬ ((0 : Nat) : Int) > 0 by omega)]
    exact go (fun x t h => by rw [hr] at h; cases h)
  | cons x t =>
    have hp : ((x :: t).length : Int) > 0 := by simp only [List.length_cons]; omega
    have hp2 : 0 < ((x :: t).length : Int) := hp
    simp only [if_pos hp, if_pos hp2]
    rw [show rd (x :: t) 0 = x from rfl]
    refine Ev.bind (refopn _ (h32 x (by rw [hr]; exact List.mem_cons_self ..))) ?_
    by_cases ho : opn x = true
    · simp only [ho, Bool.not_true]
      exact go (fun y u h => by rw [hr] at h; rw [← (List.cons.inj h).1]; exact ho)
    · have ho2 : opn x = false := by simpa using ho
      simp only [ho2, Bool.not_false]
      refine Ev.step (fun k => tremalaw04_SegJoins.j0.eq_2 ..) ?_
      simp only [if_true]
      exact Ev.now _
end Go.Proofs.YtiggjbclbdikmaaDoor.Sgu
