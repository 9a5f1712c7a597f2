/-
  The reference's reading (tremaref01.At, Decode), plainly.
-/
import Derived.Test.YtpebemljgeammaaUx
namespace Go.Proofs.Ytpebemljgeammaa.Ux
set_option linter.unusedVariables false
set_option linter.unusedSimpArgs false
open Go.RowKit Go.Proofs.YtpebemljgeammaaW.PrintWords Go.Proofs.Ytpebemljgeammaa.Hp Go.Proofs.Ytpebemljgeammaa.PUtfDecodes

def flat : List (Int × Int) → List Int
  | [] => []
  | (a, b) :: l => a :: b :: flat l
theorem flat_len : ∀ bs, (flat bs).length = 2 * bs.length
  | [] => rfl
  | (a, b) :: l => by simp [flat, flat_len l]; omega
theorem flat_get : ∀ (bs : List (Int × Int)) (j : Nat) (h : j < bs.length), (flat bs).getD (2 * j) 0 = bs[j].1 ∧ (flat bs).getD (2 * j + 1) 0 = bs[j].2
  | (a, b) :: l, 0, _ => by simp [flat]
  | (a, b) :: l, j + 1, h => by
    have := flat_get l j (by simpa using h)
    rw [show 2 * (j + 1) = 2 * j + 2 by omega, show 2 * j + 2 + 1 = 2 * j + 1 + 2 by omega]
    simpa [flat, List.getD_eq_getElem?_getD] using this

theorem row_some (c : Int) (h : 0 ≤ c ∧ c ≤ 255) : tremaref01_row.f 8 c = some (match bnd c with | none => ([], false) | some bs => (flat bs, true)) := by
  unfold tremaref01_row.f bnd
  by_cases h1 : c < 128
  · rw [if_pos (by omega), if_pos h1]; rfl
  · rw [if_neg (by omega), if_neg h1]
    by_cases h2 : c ≥ 194
    · rw [if_pos h2]
      by_cases h3 : c < 224
      · rw [if_neg (by omega), if_pos h3, decide_eq_true (show c ≤ 223 by omega)]
        simp [tremaref01_row.j0, flat]
      · rw [decide_eq_false (show ¬ c ≤ 223 by omega)]
        simp only [tremaref01_row.j0, Bool.false_eq_true, if_false]
        by_cases h4 : c = 224
        · subst h4; rfl
        · rw [if_neg h4]
          by_cases h5 : c = 237
          · subst h5; rfl
          · rw [if_neg h5, if_pos (by omega)]
            by_cases h6 : c < 240
            · rw [decide_eq_true (show c ≤ 239 by omega), if_neg (by omega), if_neg h3, if_pos h6]
              simp [tremaref01_row.j1, flat, h4, h5]
            · rw [decide_eq_false (show ¬ c ≤ 239 by omega)]
              simp only [tremaref01_row.j1, Bool.false_eq_true, if_false]
              by_cases h7 : c = 240
              · subst h7; rfl
              · rw [if_neg h7, if_pos (by omega)]
                by_cases h8 : c ≤ 243
                · rw [decide_eq_true h8, if_neg (by omega), if_neg h3, if_neg h6]
                  simp [tremaref01_row.j2, flat, h7, show ¬ c = 244 by omega]
                · rw [decide_eq_false h8]
                  simp only [tremaref01_row.j2, Bool.false_eq_true, if_false]
                  by_cases h9 : c = 244
                  · subst h9; rfl
                  · rw [if_neg h9, if_pos (by omega)]
    · rw [if_neg h2, if_pos (by omega)]
      simp only [tremaref01_row.j0, Bool.false_eq_true, if_false]
      rw [if_neg (by omega), if_neg (by omega), if_neg (by omega)]
      simp only [tremaref01_row.j1, Bool.false_eq_true, if_false]
      rw [if_neg (by omega), if_neg (by omega)]
      simp only [tremaref01_row.j2, Bool.false_eq_true, if_false]
      rw [if_neg (by omega)]

/-- How many of the further bytes fit. -/
def mt : List (Int × Int) → List Int → Nat
  | [], _ => 0
  | _ :: _, [] => 0
  | (lo, hi) :: bs, x :: t => if x < lo ∨ hi < x then 0 else mt bs t + 1
def fold (r : Int) (l : List Int) : Int := l.foldl (fun r x => r * 64 + x % 64) r
theorem mt_le : ∀ (bs : List (Int × Int)) (t : List Int), mt bs t ≤ bs.length ∧ mt bs t ≤ t.length
  | [], t => by simp [mt]
  | _ :: _, [] => by simp [mt]
  | (lo, hi) :: bs, x :: t => by
    have := mt_le bs t
    simp only [mt]
    split <;> simp <;> omega
theorem cont_mt : ∀ (bs : List (Int × Int)) (t : List Int) (r i : Int), cont bs t r i = if mt bs t = bs.length then (fold r (t.take bs.length), i + bs.length, false) else (65533, i + mt bs t, decide (mt bs t = t.length))
  | [], t, r, i => by simp [cont, mt, fold]
  | b :: bs, [], r, i => by simp [cont, mt]
  | (lo, hi) :: bs, x :: t, r, i => by
    simp only [cont, mt]
    split
    · simp
    · rw [cont_mt bs t]
      simp only [List.length_cons, Nat.add_right_cancel_iff]
      split
      · simp only [List.take_succ_cons, fold, List.foldl_cons]
        congr 2
        push_cast; omega
      · congr 2
        · push_cast; omega

theorem step_r2 (r x : Int) (h0 : 0 ≤ r) (hr : (r + 1) * 64 ≤ 2097152) (hx : 0 ≤ x ∧ x ≤ 255) : wrap32 ((wrap32 (r * 64)) + (Int.tmod (wrap32 x) 64)) = r * 64 + x % 64 := by
  have e1 : wrap32 (r * 64) = r * 64 := by unfold wrap32; omega
  have e2 : wrap32 x = x := by unfold wrap32; omega
  rw [e1, e2, Int.tmod_eq_emod_of_nonneg hx.1]
  unfold wrap32
  omega
theorem l1_step (l : List Int) (hl : l.length ≤ 140737488355328) (at_ n j k : Nat) (r : Int) (h1 : j < n) (hlt : at_ + j < l.length) (x : Int) (hxe : x = l[at_ + j]) (hx : 0 ≤ x ∧ x ≤ 255) (h0 : 0 ≤ r) (hr : (r + 1) * 64 ≤ 2097152) :
    tremaref01_At.l1 (k + 1) l at_ (n : Int) r j = tremaref01_At.l1 k l at_ (n : Int) (r * 64 + x % 64) ((j + 1 : Nat) : Int) := by
  have ea : wrap64 ((at_ : Int) + j) = ((at_ + j : Nat) : Int) := by unfold wrap64; omega
  have ew : wrap64 ((j : Int) + 1) = ((j + 1 : Nat) : Int) := by unfold wrap64; omega
  simp only [tremaref01_At.l1]
  rw [if_pos (by omega), ea, if_pos (by omega), if_pos (by omega), rd_at l _ hlt, ew, ← hxe, step_r2 r x h0 hr hx]
theorem fold_cons (r x : Int) (t : List Int) : fold r (x :: t) = fold (r * 64 + x % 64) t := rfl
theorem l1_pure (l : List Int) (hb : Bytes l) (hl : l.length ≤ 140737488355328) (at_ : Nat) (n : Nat) (hn : n ≤ 8) (han : at_ + n ≤ l.length) : ∀ (d j k : Nat) (r : Int), n - j = d → j ≤ n → d < k → 0 ≤ r → (r + 1) * (64 ^ d : Nat) ≤ 2097152 →
    tremaref01_At.l1 k l at_ (n : Int) r j = some (fold r ((l.drop (at_ + j)).take d), (n : Int), false) := by
  intro d
  induction d with
  | zero =>
    intro j k r hd hj hk _ _
    obtain ⟨k, rfl⟩ : ∃ m, k = m + 1 := ⟨k - 1, by omega⟩
    simp only [tremaref01_At.l1]
    rw [if_neg (by omega)]
    simp [fold]
  | succ d ih =>
    intro j k r hd hj hk h0 hr
    obtain ⟨k, rfl⟩ : ∃ m, k = m + 1 := ⟨k - 1, by clear hr; omega⟩
    have hlt : at_ + j < l.length := by clear hr; omega
    have hx := hb l[at_ + j] (List.getElem_mem hlt)
    have hp := step_p (x := l[at_ + j]) h0 (Nat.one_le_pow d 64 (by decide)) (by rw [Nat.pow_succ, Nat.mul_comm] at hr; exact hr)
    clear hr
    have h5 : 0 ≤ r * 64 + l[at_ + j] % 64 := by clear hp ih; omega
    rw [l1_step l hl at_ n j k r (by clear hp ih; omega) hlt _ rfl hx h0 hp.1, ih (j + 1) k _ (by clear hp ih; omega) (by clear hp ih; omega) (by clear hp ih; omega) h5 hp.2, List.drop_eq_getElem_cons hlt, List.take_succ_cons, fold_cons]
    rfl

def fin (l : List Int) (at_ : Nat) (c : Int) (bs : List (Int × Int)) (m : Nat) : Int × Int × Bool :=
  if m < bs.length then (65533, 1 + (m : Int), decide (at_ + 1 + m = l.length)) else (fold (st c) ((l.drop (at_ + 1)).take m), 1 + (m : Int), false)

theorem j1_pure (l : List Int) (hb : Bytes l) (hl : l.length ≤ 140737488355328) (at_ : Nat) (hat : at_ < l.length) (bs : List (Int × Int)) (hbs : bnd l[at_] = some bs) (m k : Nat) (hm : m ≤ bs.length) (hm2 : at_ + 1 + m ≤ l.length) (hk : m + 3 < k) :
    tremaref01_At.j1 k l at_ (flat bs) (1 + (m : Int)) = some (fin l at_ l[at_] bs m) := by
  obtain ⟨k, rfl⟩ : ∃ q, k = q + 1 := ⟨k - 1, by omega⟩
  have hc := hb l[at_] (List.getElem_mem hat)
  have hs := st_bound hc hbs
  have h3 := bnd_len hbs
  have ef : wrap64 (((flat bs).length : Int) / 2) = bs.length := by rw [flat_len]; unfold wrap64; omega
  simp only [tremaref01_At.j1]
  rw [ef]
  unfold fin
  by_cases h1 : m < bs.length
  · rw [if_pos (by omega), if_pos h1]
    have ea : wrap64 ((at_ : Int) + (1 + m)) = ((at_ + 1 + m : Nat) : Int) := by unfold wrap64; omega
    rw [ea]
    congr 3
    rw [Bool.eq_iff_iff]
    simp only [beq_iff_eq, decide_eq_true_eq]
    omega
  · obtain rfl : m = bs.length := by omega
    rw [if_neg (by omega), if_neg h1]
    have hw : wrap32 l[at_] = l[at_] := by clear hs; unfold wrap32; omega
    by_cases h0 : bs.length = 0
    · rw [if_pos (by omega), if_pos (by omega), if_pos (by omega), rd_at l at_ hat, hw, h0]
      have : st l[at_] = l[at_] := by
        unfold bnd at hbs
        unfold st
        split at hbs
        · rename_i h; rw [if_pos h]
        · split at hbs
          · cases hbs
          · split at hbs
            · cases hbs; simp at h0
            · split at hbs
              · cases hbs; simp at h0
              · cases hbs; simp at h0
      simp [fold, this]
    · rw [if_neg (by omega), if_pos (by omega), if_pos (by omega)]
      have e7 : wrap64 (7 - (1 + (bs.length : Int))) = 6 - bs.length := by clear hs; unfold wrap64; omega
      rw [e7, if_pos (by omega), rd_at l at_ hat, hw]
      have hsh : (shl .i32 1 (6 - (bs.length : Int))) ≠ 0 ∧ Int.tmod l[at_] (shl .i32 1 (6 - (bs.length : Int))) = st l[at_] := by
        unfold bnd at hbs
        unfold st
        split at hbs
        · cases hbs; simp at h0
        · rename_i g1
          rw [if_neg g1]
          split at hbs
          · cases hbs
          · split at hbs
            · rename_i g3; cases hbs
              rw [if_pos g3]
              exact ⟨by decide, by rw [show shl .i32 1 (6 - (([(128, 191)] : List (Int × Int)).length : Int)) = 32 by decide, Int.tmod_eq_emod_of_nonneg hc.1]⟩
            · rename_i g3
              rw [if_neg g3]
              split at hbs
              · rename_i g4; cases hbs
                rw [if_pos g4]
                simp only [List.length_cons, List.length_nil]
                exact ⟨by decide, by rw [show shl .i32 1 (6 - ((0 + 1 + 1 : Nat) : Int)) = 16 by decide, Int.tmod_eq_emod_of_nonneg hc.1]⟩
              · rename_i g4; cases hbs
                rw [if_neg g4]
                simp only [List.length_cons, List.length_nil]
                exact ⟨by decide, by rw [show shl .i32 1 (6 - ((0 + 1 + 1 + 1 : Nat) : Int)) = 8 by decide, Int.tmod_eq_emod_of_nonneg hc.1]⟩
      rw [if_neg hsh.1, hsh.2]
      have := l1_pure l hb hl at_ (1 + bs.length) (by clear hs; omega) (by clear hs; omega) bs.length 1 k (st l[at_]) (by clear hs; omega) (by clear hs; omega) (by clear hs; omega) hs.1 hs.2
      rw [show ((1 : Int) + (bs.length : Int)) = ((1 + bs.length : Nat) : Int) by push_cast; rfl]
      exact this


theorem ef_len {bs : List (Int × Int)} (h3 : bs.length ≤ 3) : wrap64 (((flat bs).length : Int) / 2) = bs.length := by
  rw [flat_len]; unfold wrap64; omega
theorem rd_flat {bs : List (Int × Int)} {j : Nat} (hj : j < bs.length) : rd (flat bs) ((2 * j : Nat) : Int) = bs[j].1 ∧ rd (flat bs) ((2 * j + 1 : Nat) : Int) = bs[j].2 := by
  have hg := flat_get bs j hj
  simp only [rd, Int.toNat_natCast]
  exact hg
theorem l0_stop (l : List Int) (at_ k : Nat) (bs : List (Int × Int)) (h3 : bs.length ≤ 3) : tremaref01_At.l0 (k + 1) l at_ (flat bs) (1 + (bs.length : Int)) = tremaref01_At.j1 k l at_ (flat bs) (1 + (bs.length : Int)) := by
  simp only [tremaref01_At.l0]
  rw [ef_len h3, if_neg (by omega)]
theorem l0_end (l : List Int) (hl : l.length ≤ 140737488355328) (at_ k j : Nat) (bs : List (Int × Int)) (h3 : bs.length ≤ 3) (hj : j < bs.length) (he : at_ + 1 + j = l.length) : tremaref01_At.l0 (k + 1) l at_ (flat bs) (1 + (j : Int)) = tremaref01_At.j1 k l at_ (flat bs) (1 + (j : Int)) := by
  have ea : wrap64 ((at_ : Int) + (1 + j)) = ((at_ + 1 + j : Nat) : Int) := by unfold wrap64; omega
  simp only [tremaref01_At.l0]
  rw [ef_len h3, if_pos (by omega), ea, if_neg (by omega)]
theorem l0_step (l : List Int) (hl : l.length ≤ 140737488355328) (at_ k j : Nat) (bs : List (Int × Int)) (h3 : bs.length ≤ 3) (hj : j < bs.length) (he : at_ + 1 + j < l.length) :
    tremaref01_At.l0 (k + 1) l at_ (flat bs) (1 + (j : Int)) = if l[at_ + 1 + j] < bs[j].1 ∨ bs[j].2 < l[at_ + 1 + j] then tremaref01_At.j1 k l at_ (flat bs) (1 + (j : Int)) else tremaref01_At.l0 k l at_ (flat bs) (1 + ((j + 1 : Nat) : Int)) := by
  have ea : wrap64 ((at_ : Int) + (1 + j)) = ((at_ + 1 + j : Nat) : Int) := by unfold wrap64; omega
  have e2 : wrap64 ((wrap64 (2 * (1 + (j : Int)))) - 2) = ((2 * j : Nat) : Int) := by unfold wrap64; omega
  have e3 : wrap64 ((wrap64 (2 * (1 + (j : Int)))) - 1) = ((2 * j + 1 : Nat) : Int) := by unfold wrap64; omega
  have ew : wrap64 ((1 + (j : Int)) + 1) = 1 + ((j + 1 : Nat) : Int) := by unfold wrap64; omega
  have hf := flat_len bs
  simp only [tremaref01_At.l0]
  rw [ef_len h3, if_pos (by omega), ea, e2, e3, ew, if_pos (by omega), if_pos (by omega), if_pos (by omega), if_pos (by omega), rd_at l _ he, (rd_flat hj).1, (rd_flat hj).2]
  by_cases h1 : l[at_ + 1 + j] ≥ bs[j].1
  · rw [if_pos h1, if_pos (by omega), if_pos (by omega)]
    by_cases h2 : l[at_ + 1 + j] ≤ bs[j].2
    · rw [if_pos h2, if_neg (by omega)]
    · rw [if_neg h2, if_pos (by omega)]
  · rw [if_neg h1, if_pos (by omega)]

theorem l0_pure (l : List Int) (hb : Bytes l) (hl : l.length ≤ 140737488355328) (at_ : Nat) (hat : at_ < l.length) (bs : List (Int × Int)) (hbs : bnd l[at_] = some bs) : ∀ (d j k : Nat), bs.length - j = d → j ≤ bs.length → at_ + 1 + j ≤ l.length → bs.length + d + 6 < k →
    tremaref01_At.l0 k l at_ (flat bs) (1 + (j : Int)) = some (fin l at_ l[at_] bs (j + mt (bs.drop j) (l.drop (at_ + 1 + j)))) := by
  have h3 := bnd_len hbs
  intro d
  induction d with
  | zero =>
    intro j k hd hj hj2 hk
    obtain ⟨k, rfl⟩ : ∃ q, k = q + 1 := ⟨k - 1, by omega⟩
    obtain rfl : j = bs.length := by omega
    rw [l0_stop l at_ k bs h3, j1_pure l hb hl at_ hat bs hbs bs.length k (Nat.le_refl _) hj2 (by omega), List.drop_length]
    rfl
  | succ d ih =>
    intro j k hd hj hj2 hk
    obtain ⟨k, rfl⟩ : ∃ q, k = q + 1 := ⟨k - 1, by omega⟩
    have hjl : j < bs.length := by omega
    have hj1 := j1_pure l hb hl at_ hat bs hbs j k hj hj2 (by omega)
    by_cases he : at_ + 1 + j < l.length
    · have em : mt (bs.drop j) (l.drop (at_ + 1 + j)) = if l[at_ + 1 + j] < bs[j].1 ∨ bs[j].2 < l[at_ + 1 + j] then 0 else mt (bs.drop (j + 1)) (l.drop (at_ + 1 + (j + 1))) + 1 := by
        rw [List.drop_eq_getElem_cons hjl, List.drop_eq_getElem_cons he]
        rfl
      rw [l0_step l hl at_ k j bs h3 hjl he, em]
      by_cases hc : l[at_ + 1 + j] < bs[j].1 ∨ bs[j].2 < l[at_ + 1 + j]
      · rw [if_pos hc, if_pos hc, hj1]
        rfl
      · rw [if_neg hc, if_neg hc, ih (j + 1) k (by omega) (by omega) (by omega) (by omega)]
        rw [show j + 1 + mt (bs.drop (j + 1)) (l.drop (at_ + 1 + (j + 1))) = j + (mt (bs.drop (j + 1)) (l.drop (at_ + 1 + (j + 1))) + 1) from by omega]
    · rw [l0_end l hl at_ k j bs h3 hjl (by omega), hj1, List.drop_eq_nil_of_le (i := at_ + 1 + j) (by omega), List.drop_eq_getElem_cons hjl]
      rfl

theorem at_pure (l : List Int) (hb : Bytes l) (hl : l.length ≤ 140737488355328) (at_ : Nat) (hat : at_ < l.length) : tremaref01_At.f 20 l at_ = some (one1 l[at_] (l.drop (at_ + 1))) := by
  have hc := hb l[at_] (List.getElem_mem hat)
  have hrow : tremaref01_row.f 20 l[at_] = some (match bnd l[at_] with | none => ([], false) | some bs => (flat bs, true)) :=
    at_rounds (fun k => tremaref01_row.mono l[at_] k) (by omega) (row_some l[at_] hc)
  unfold tremaref01_At.f
  rw [if_pos (by omega), if_pos (by omega), rd_at l at_ hat, hrow]
  simp only [Option.bind_some, one1]
  cases h : bnd l[at_] with
  | none => simp
  | some bs =>
    have h3 := bnd_len h
    have := l0_pure l hb hl at_ hat bs h bs.length 0 20 rfl (Nat.zero_le _) (by omega) (by omega)
    have hm := mt_le bs (l.drop (at_ + 1))
    rw [Nat.zero_add, Nat.add_zero, List.drop_zero] at this
    simp only [if_true]
    rw [show (1 : Int) = 1 + ((0 : Nat) : Int) from rfl, this, cont_mt]
    unfold fin
    by_cases h4 : mt bs (l.drop (at_ + 1)) = bs.length
    · rw [if_neg (by omega), if_pos h4, h4]; rfl
    · have hlt : mt bs (l.drop (at_ + 1)) < bs.length := by omega
      rw [if_pos hlt, if_neg h4]
      have e : decide (at_ + 1 + mt bs (l.drop (at_ + 1)) = l.length) = decide (mt bs (l.drop (at_ + 1)) = (l.drop (at_ + 1)).length) := by
        rw [Bool.eq_iff_iff]
        simp only [decide_eq_true_eq, List.length_drop]
        omega
      rw [e]
      rfl
end Go.Proofs.Ytpebemljgeammaa.Ux
