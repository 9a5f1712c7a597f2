/-
  Several sparse sets at once, apart from each other and from the blocks of R.
-/
import Derived.Test.YtpebemljgeammaaSp0
namespace Go.Proofs.Ytpebemljgeammaa.Fa
set_option linter.unusedVariables false
set_option linter.unusedSimpArgs false
open Go.RowKit Go.Proofs.YtpebemljgeammaaW.PrintWords Go.Proofs.Ytpebemljgeammaa.Hp Go.Proofs.Ytpebemljgeammaa.Sp0

structure Sig where
  T : TypeId
  e : TypeId
  k : IntKind
  g : Nat
  xs : List Int

def Fam (w0 : World) (N : Nat) (L : List Sig) (R : Nat → Prop) (w : World) : Prop :=
  ∃ ok : Nat → Nat → Prop, (∀ i s, L[i]? = some s → IsSet s.T s.e s.k N s.xs s.g w0.heap.size (ok i) w) ∧ (∀ i j b, i ≠ j → ok i b → ¬ ok j b) ∧ (∀ i b, ok i b → w0.heap.size ≤ b ∧ b < w.heap.size ∧ ¬ R b) ∧ Below w0.heap.size w0 w

section
variable {w0 w w' : World} {N : Nat} {L : List Sig} {R : Nat → Prop}
theorem Fam.below (h : Fam w0 N L R w) : Below w0.heap.size w0 w := by obtain ⟨_, _, _, _, h⟩ := h; exact h
theorem Fam.nil (w0 : World) (N : Nat) (R : Nat → Prop) : Fam w0 N [] R w0 := ⟨fun _ _ => False, by simp, by simp, by simp, Below.refl _ _⟩
theorem Fam.later (h : Fam w0 N L R w) (hb : Below w.heap.size w w') : Fam w0 N L R w' := by
  obtain ⟨ok, h1, h2, h3, h4⟩ := h
  exact ⟨ok, fun i s hs => (h1 i s hs).step (fun b hb' hlt => hb.block b hlt), h2, fun i b hb' => ⟨(h3 i b hb').1, Nat.lt_of_lt_of_le (h3 i b hb').2.1 hb.size, (h3 i b hb').2.2⟩, below_then h4 h4.size hb⟩
/-- The blocks of R may be written. -/
theorem Fam.chg {S : Nat → Prop} (h : Fam w0 N L R w) (hc : Chg S w w') (hS : ∀ b, S b → b < w.heap.size → R b ∧ w0.heap.size ≤ b) : Fam w0 N L R w' := by
  obtain ⟨ok, h1, h2, h3, h4⟩ := h
  refine ⟨ok, fun i s hs => (h1 i s hs).chg hc (fun b hlt hb hs => (h3 i b hb).2.2 (hS b hs hlt).1), h2, fun i b hb' => ⟨(h3 i b hb').1, Nat.lt_of_lt_of_le (h3 i b hb').2.1 hc.size, (h3 i b hb').2.2⟩, ?_⟩
  exact Chg.below_of h4 (hc.mono (S' := fun b => w0.heap.size ≤ b) (fun b hlt hs => (hS b hs hlt).2)) (fun _ h => h)
theorem Fam.free (h : Fam w0 N L R w) (R' : Nat → Prop) (hR : ∀ b, R' b → R b ∨ w.heap.size ≤ b) : Fam w0 N L R' w := by
  obtain ⟨ok, h1, h2, h3, h4⟩ := h
  exact ⟨ok, h1, h2, fun i b hb => ⟨(h3 i b hb).1, (h3 i b hb).2.1, fun hr => (hR b hr).elim (h3 i b hb).2.2 (fun h => by have := (h3 i b hb).2.1; omega)⟩, h4⟩
theorem IsSet.lower {T e : TypeId} {k : IntKind} {N : Nat} {xs : List Int} {g base base' : Nat} {ok : Nat → Prop} {w : World} (h : IsSet T e k N xs g base ok w) (hb : base' ≤ base) : IsSet T e k N xs g base' ok w := by
  obtain ⟨gw, ov, ws, h, h1⟩ := h
  exact ⟨gw, ov, ws, { h with ho := own_weaken h.ho hb, bg := Nat.le_trans hb h.bg, bw := Nat.le_trans hb h.bw }, h1⟩
theorem Fam.new {T e : TypeId} {k : IntKind} {g : Nat} (h : Fam w0 N L R w) (hR : ∀ b, R b → b < w.heap.size) (hs : IsSet T e k N [] g w.heap.size (fun b => w.heap.size ≤ b) w') (hb : Below w.heap.size w w') : Fam w0 N (L ++ [⟨T, e, k, g, []⟩]) R w' := by
  have hl := h.later hb
  obtain ⟨ok, h1, h2, h3, h4⟩ := h
  refine ⟨fun i b => if i < L.length then ok i b else if i = L.length then w.heap.size ≤ b ∧ b < w'.heap.size else False, ?_, ?_, ?_, hl.below⟩
  · intro i s hi
    rw [List.getElem?_append] at hi
    split at hi
    · rename_i hlt
      have := (h1 i s hi).step (w1 := w') (fun b hb' hlt => hb.block b hlt)
      simpa only [if_pos hlt] using this
    · rename_i hge
      rcases Nat.lt_or_ge (i - L.length) 1 with h5 | h5
      · have e : i = L.length := by omega
        subst e
        simp at hi
        subst hi
        simp only [Nat.lt_irrefl, if_false, if_true]
        exact IsSet.lower hs.bound h4.size
      · rw [List.getElem?_eq_none (by simpa using h5)] at hi; cases hi
  · intro i j b hij hi hj
    split at hi
    · split at hj
      · exact h2 i j b hij hi hj
      · split at hj
        · have := (h3 i b hi).2.1; omega
        · exact hj
    · split at hi
      · split at hj
        · have := (h3 j b hj).2.1; omega
        · split at hj
          · omega
          · exact hj
      · exact hi
  · intro i b hi
    split at hi
    · exact ⟨(h3 i b hi).1, Nat.lt_of_lt_of_le (h3 i b hi).2.1 hb.size, (h3 i b hi).2.2⟩
    · split at hi
      · exact ⟨Nat.le_trans h4.size hi.1, hi.2, fun hr => by have := hR b hr; omega⟩
      · exact hi.elim
/-- One of them: what it is; and what a call on it leaves of all. -/
theorem Fam.get (h : Fam w0 N L R w) (hR : ∀ b, R b → b < w.heap.size) (i : Nat) (s : Sig) (hi : L[i]? = some s) :
    ∃ ok : Nat → Prop, IsSet s.T s.e s.k N s.xs s.g w0.heap.size ok w ∧ ∀ (w' : World) (xs' : List Int) (ok' : Nat → Prop), (∀ b, ok' b → ok b ∨ w.heap.size ≤ b) → IsSet s.T s.e s.k N xs' s.g w0.heap.size ok' w' → Chg ok w w' →
      Fam w0 N (L.set i { s with xs := xs' }) R w' ∧ ∀ b, R b → w'.heap[b]? = w.heap[b]? := by
  obtain ⟨ok, h1, h2, h3, h4⟩ := h
  refine ⟨ok i, h1 i s hi, fun w' xs' ok' hsub hs hc => ⟨⟨fun j b => if j = i then ok' b ∧ b < w'.heap.size else ok j b, ?_, ?_, ?_, ?_⟩, fun b hb => hc.keep b (hR b hb) (fun h => (h3 i b h).2.2 hb)⟩⟩
  · intro j t hj
    by_cases e : j = i
    · subst e
      rw [List.getElem?_set_self (List.getElem?_eq_some_iff.1 hi).1] at hj
      injection hj with hj
      subst hj
      simp only [if_true]
      exact hs.bound
    · rw [List.getElem?_set_ne (Ne.symm e)] at hj
      simp only [if_neg e]
      exact (h1 j t hj).chg hc (fun b _ hb hb2 => h2 j i b e hb hb2)
  · intro j l b hjl hj hl
    split at hj
    · rename_i ej
      split at hl
      · omega
      · rename_i el
        rcases hsub b hj.1 with h | h
        · exact h2 i l b (Ne.symm el) h hl
        · have := (h3 l b hl).2.1; omega
    · rename_i ej
      split at hl
      · rcases hsub b hl.1 with h | h
        · exact h2 j i b ej hj h
        · have := (h3 j b hj).2.1; omega
      · exact h2 j l b hjl hj hl
  · intro j b hj
    split at hj
    · refine ⟨?_, hj.2, fun hr => ?_⟩
      · rcases hsub b hj.1 with h | h
        · exact (h3 i b h).1
        · have := h4.size; omega
      · rcases hsub b hj.1 with h | h
        · exact (h3 i b h).2.2 hr
        · have := hR b hr; omega
    · exact ⟨(h3 j b hj).1, Nat.lt_of_lt_of_le (h3 j b hj).2.1 hc.size, (h3 j b hj).2.2⟩
  · exact hc.below_of h4 (fun b hb => (h3 i b hb).1)
theorem Fam.one (h : Fam w0 N L R w) (i : Nat) (s : Sig) (hi : L[i]? = some s) : ∃ ok : Nat → Prop, IsSet s.T s.e s.k N s.xs s.g w0.heap.size ok w := by
  obtain ⟨ok, h1, _⟩ := h
  exact ⟨ok i, h1 i s hi⟩
end
end Go.Proofs.Ytpebemljgeammaa.Fa
