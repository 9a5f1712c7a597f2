/-
  Decoding plainly: pieces, what is kept back, chunks.
-/
import Derived.Test.YtpebemljgeammaaUy
namespace Go.Proofs.Ytpebemljgeammaa.Ux
set_option linter.unusedVariables false
set_option linter.unusedSimpArgs false
open Go.RowKit Go.Proofs.YtpebemljgeammaaW.PrintWords Go.Proofs.Ytpebemljgeammaa.Hp Go.Proofs.Ytpebemljgeammaa.PUtfDecodes

/-- The code points that are sure, what is left, where it stands. -/
def dec : Nat → List Int → Int → List S72 × List Int × Int
  | 0, b, p => ([], b, p)
  | _ + 1, [], p => ([], [], p)
  | k + 1, c :: t, p =>
    if (one1 c t).2.2 = true then ([], c :: t, p)
    else ((⟨(one1 c t).1, p, (one1 c t).2.1⟩ : S72) :: (dec k ((c :: t).drop (one1 c t).2.1.toNat) (p + (one1 c t).2.1)).1, (dec k ((c :: t).drop (one1 c t).2.1.toNat) (p + (one1 c t).2.1)).2)
def dc (b : List Int) (p : Int) : List S72 × List Int × Int := dec b.length b p
/-- What Close tells of what was left. -/
def rest1 (b : List Int) (p : Int) : List S72 := if b = [] then [] else [⟨65533, p, b.length⟩]
def full (b : List Int) : List S72 := (dc b 0).1 ++ rest1 (dc b 0).2.1 (dc b 0).2.2

theorem drop_lt (c : Int) (t : List Int) : ((c :: t).drop (one1 c t).2.1.toNat).length ≤ t.length := by
  have := one1_width c t
  rw [List.length_drop, List.length_cons]
  omega
theorem dec_more : ∀ (k : Nat) (b : List Int) (p : Int), b.length ≤ k → dec k b p = dc b p
  | 0, [], p, _ => rfl
  | 0, c :: t, p, h => by simp at h
  | k + 1, [], p, _ => rfl
  | k + 1, c :: t, p, h => by
    have hd := drop_lt c t
    have h' : t.length ≤ k := by simpa using h
    unfold dc
    rw [List.length_cons]
    simp only [dec]
    rw [dec_more k _ _ (by omega), dec_more t.length _ _ hd]
theorem dc_nil (p : Int) : dc [] p = ([], [], p) := rfl
theorem dc_cons (c : Int) (t : List Int) (p : Int) : dc (c :: t) p = if (one1 c t).2.2 = true then ([], c :: t, p) else ((⟨(one1 c t).1, p, (one1 c t).2.1⟩ : S72) :: (dc ((c :: t).drop (one1 c t).2.1.toNat) (p + (one1 c t).2.1)).1, (dc ((c :: t).drop (one1 c t).2.1.toNat) (p + (one1 c t).2.1)).2) := by
  rw [dc, List.length_cons]
  simp only [dec]
  rw [dec_more t.length _ _ (drop_lt c t)]

/-- Induction over reading. -/
theorem dc_ind {P : List Int → Int → Prop} (h0 : ∀ p, P [] p) (h1 : ∀ c t p, (one1 c t).2.2 = true → P (c :: t) p) (h2 : ∀ c t p, (one1 c t).2.2 = false → P ((c :: t).drop (one1 c t).2.1.toNat) (p + (one1 c t).2.1) → P (c :: t) p) : ∀ b p, P b p := by
  intro b
  induction hn : b.length using Nat.strongRecOn generalizing b with
  | _ n ih =>
    intro p
    cases b with
    | nil => exact h0 p
    | cons c t =>
      cases hm : (one1 c t).2.2 with
      | true => exact h1 c t p hm
      | false =>
        have hd := drop_lt c t
        exact h2 c t p hm (ih _ (by rw [← hn, List.length_cons]; omega) _ rfl _)

theorem dc_len (b : List Int) (p : Int) : (dc b p).2.2 + (dc b p).2.1.length = p + b.length ∧ (dc b p).1.length + (dc b p).2.1.length ≤ b.length ∧ (dc b p).2.1.length ≤ b.length := by
  refine dc_ind (P := fun b p => (dc b p).2.2 + (dc b p).2.1.length = p + b.length ∧ (dc b p).1.length + (dc b p).2.1.length ≤ b.length ∧ (dc b p).2.1.length ≤ b.length) ?_ ?_ ?_ b p
  · intro p; simp [dc_nil]
  · intro c t p h; rw [dc_cons, if_pos h]; simp
  · intro c t p h ih
    have hw := one1_width c t
    rw [dc_cons, if_neg (by simp [h])]
    simp only [List.length_drop, List.length_cons] at ih ⊢
    omega

/-! a piece that is told stays so, whatever comes behind -/
theorem cont_stable : ∀ (bs : List (Int × Int)) (t s : List Int) (r i : Int), (cont bs t r i).2.2 = false → cont bs (t ++ s) r i = cont bs t r i
  | [], t, s, r, i, _ => rfl
  | b :: bs, [], s, r, i, h => by simp [cont] at h
  | (lo, hi) :: bs, x :: t, s, r, i, h => by
    simp only [cont, List.cons_append] at h ⊢
    split
    · rfl
    · rename_i hc
      rw [if_neg hc] at h
      exact cont_stable bs t s _ _ h
theorem one1_stable (c : Int) (t s : List Int) (h : (one1 c t).2.2 = false) : one1 c (t ++ s) = one1 c t := by
  unfold one1 at h ⊢
  cases hb : bnd c with
  | none => rfl
  | some bs =>
    rw [hb] at h
    exact cont_stable bs t s _ _ h
theorem cont_more : ∀ (bs : List (Int × Int)) (t : List Int) (r i : Int), (cont bs t r i).2.2 = true → (cont bs t r i).1 = 65533 ∧ (cont bs t r i).2.1 = i + t.length ∧ t.length < bs.length
  | [], t, r, i, h => by simp [cont] at h
  | b :: bs, [], r, i, h => by simp [cont]
  | (lo, hi) :: bs, x :: t, r, i, h => by
    simp only [cont] at h ⊢
    split
    · rename_i hc; rw [if_pos hc] at h; simp at h
    · rename_i hc
      rw [if_neg hc] at h
      have := cont_more bs t _ _ h
      simp only [List.length_cons]
      refine ⟨this.1, by rw [this.2.1]; push_cast; omega, by omega⟩
theorem one1_more (c : Int) (t : List Int) (h : (one1 c t).2.2 = true) : (one1 c t).1 = 65533 ∧ (one1 c t).2.1 = 1 + t.length ∧ t.length < 3 := by
  unfold one1 at h ⊢
  cases hb : bnd c with
  | none => rw [hb] at h; simp at h
  | some bs =>
    rw [hb] at h
    have h1 := cont_more bs t _ _ h
    have h2 := bnd_len hb
    exact ⟨h1.1, h1.2.1, by omega⟩
theorem dc_rest (b : List Int) (p : Int) : (dc b p).2.1.length ≤ 3 ∧ (dc (dc b p).2.1 (dc b p).2.2) = ([], (dc b p).2.1, (dc b p).2.2) := by
  refine dc_ind (P := fun b p => (dc b p).2.1.length ≤ 3 ∧ (dc (dc b p).2.1 (dc b p).2.2) = ([], (dc b p).2.1, (dc b p).2.2)) ?_ ?_ ?_ b p
  · intro p; simp [dc_nil]
  · intro c t p h
    have h3 := one1_more c t h
    rw [dc_cons, if_pos h]
    simp only [List.length_cons]
    exact ⟨by omega, by rw [dc_cons, if_pos h]⟩
  · intro c t p h ih
    rw [dc_cons, if_neg (by simp [h])]
    exact ih
theorem dc_append (b s : List Int) (p : Int) : dc (b ++ s) p = ((dc b p).1 ++ (dc ((dc b p).2.1 ++ s) (dc b p).2.2).1, (dc ((dc b p).2.1 ++ s) (dc b p).2.2).2) := by
  refine dc_ind (P := fun b p => dc (b ++ s) p = ((dc b p).1 ++ (dc ((dc b p).2.1 ++ s) (dc b p).2.2).1, (dc ((dc b p).2.1 ++ s) (dc b p).2.2).2)) ?_ ?_ ?_ b p
  · intro p; simp [dc_nil]
  · intro c t p h
    rw [dc_cons c t, if_pos h]
    simp
  · intro c t p h ih
    have hw := one1_width c t
    rw [dc_cons c t, if_neg (by simp [h]), List.cons_append, dc_cons c (t ++ s), one1_stable c t s h, if_neg (by simp [h])]
    have e : (c :: (t ++ s)).drop (one1 c t).2.1.toNat = (c :: t).drop (one1 c t).2.1.toNat ++ s := by
      rw [← List.cons_append, List.drop_append_of_le_length (by rw [List.length_cons]; omega)]
    rw [e, ih]
    simp

/-! the reference's Decode -/
theorem bytes_drop {l : List Int} (h : Bytes l) (n : Nat) : Bytes (l.drop n) := fun x hx => h x (List.mem_of_mem_drop hx)
theorem ref_dec (l : List Int) (hb : Bytes l) (hl : l.length ≤ 1000000000) (op : Bool) : ∀ (d i k : Nat) (acc : List S72), l.length - i = d → i ≤ l.length → d + 30 < k → acc.length ≤ i →
    tremaref01_Decode.l0 k l op acc i = some (acc ++ (dc (l.drop i) i).1 ++ (if op = true then [] else rest1 (dc (l.drop i) i).2.1 (dc (l.drop i) i).2.2)) := by
  intro d
  induction d using Nat.strongRecOn with
  | _ d ih =>
    intro i k acc hd hi hk ha
    obtain ⟨k, rfl⟩ : ∃ q, k = q + 1 := ⟨k - 1, by omega⟩
    simp only [tremaref01_Decode.l0]
    by_cases he : i = l.length
    · rw [if_neg (by omega), List.drop_eq_nil_of_le (by omega)]
      simp [dc_nil, rest1]
    · have hlt : i < l.length := by omega
      have hat := at_rounds (fun k => tremaref01_At.mono l i k) (show 20 ≤ k by omega) (at_pure l hb (by omega) i hlt)
      have hw := one1_width l[i] (l.drop (i + 1))
      rw [if_pos (by omega), hat, List.drop_eq_getElem_cons hlt, dc_cons]
      simp only [Option.bind_some]
      have hlen : (l.drop (i + 1)).length = l.length - i - 1 := by rw [List.length_drop]; omega
      cases hm : (one1 l[i] (l.drop (i + 1))).2.2 with
      | true =>
        have h3 := one1_more _ _ hm
        simp only [if_true]
        cases op with
        | true => simp
        | false =>
          simp only [Bool.false_eq_true, if_false]
          rw [if_pos (by omega)]
          have ew : wrap64 ((i : Int) + (one1 l[i] (l.drop (i + 1))).2.1) = ((l.length : Nat) : Int) := by rw [h3.2.1]; unfold wrap64; omega
          rw [ew, ih 0 (by omega) l.length k _ (by omega) (Nat.le_refl _) (by omega) (by simp; omega), List.drop_length]
          simp only [dc_nil, rest1, if_true, List.append_nil, h3.1, h3.2.1]
          rw [if_neg (by simp), List.length_cons, show ((1 : Int) + ((l.drop (i + 1)).length : Int)) = (((l.drop (i + 1)).length + 1 : Nat) : Int) by push_cast; omega]
          simp
          exact hlt
      | false =>
        have ew : wrap64 ((i : Int) + (one1 l[i] (l.drop (i + 1))).2.1) = ((i + (one1 l[i] (l.drop (i + 1))).2.1.toNat : Nat) : Int) := by unfold wrap64; omega
        have ed : (l[i] :: l.drop (i + 1)).drop (one1 l[i] (l.drop (i + 1))).2.1.toNat = l.drop (i + (one1 l[i] (l.drop (i + 1))).2.1.toNat) := by
          rw [← List.drop_eq_getElem_cons hlt, List.drop_drop]
        have ep : ((i + (one1 l[i] (l.drop (i + 1))).2.1.toNat : Nat) : Int) = (i : Int) + (one1 l[i] (l.drop (i + 1))).2.1 := by omega
        have h5 := ih (l.length - (i + (one1 l[i] (l.drop (i + 1))).2.1.toNat)) (by omega) (i + (one1 l[i] (l.drop (i + 1))).2.1.toNat) k (acc ++ [(⟨(one1 l[i] (l.drop (i + 1))).1, i, (one1 l[i] (l.drop (i + 1))).2.1⟩ : S72)]) rfl (by omega) (by omega) (by simp; omega)
        simp only [Bool.false_eq_true, if_false, ite_self]
        rw [if_pos (by omega), ew, h5, ed, ep]
        simp
theorem Ref_dec (l : List Int) (hb : Bytes l) (hl : l.length ≤ 1000000000) (op : Bool) : tremaref01_Decode.f (l.length + 31) l op = some ((dc l 0).1 ++ (if op = true then [] else rest1 (dc l 0).2.1 (dc l 0).2.2)) := by
  have := ref_dec l hb hl op l.length 0 (l.length + 31) [] (by omega) (by omega) (by omega) (by simp)
  simpa [tremaref01_Decode.f] using this
end Go.Proofs.Ytpebemljgeammaa.Ux
