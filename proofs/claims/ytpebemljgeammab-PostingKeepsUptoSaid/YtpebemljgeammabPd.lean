/-
  Which list bytes are read as, plainly; two rows that become one.
-/
import Derived.Test.YtpebemljgeammabPe
namespace Go.Proofs.Ytpebemljgeammab.Pd
set_option linter.unusedVariables false
set_option linter.unusedSimpArgs false
open Go.RowKit Go.Proofs.YtpebemljgeammabW.PrintWords Go.Proofs.Ytpebemljgeammab.Hp Go.Proofs.Ytpebemljgeammab.Fm Go.Proofs.Ytpebemljgeammab.Pn Go.Proofs.Ytpebemljgeammab.Pm Go.Proofs.Ytpebemljgeammab.Pw Go.Proofs.Ytpebemljgeammab.Pe Go.Proofs.Ytpebemljgeammab.PPostingKeeps

def nx (b : List Int) : Option (Nat × List Int) := if (rd1 b).2 = 0 ∨ 2147483647 < (rd1 b).1 then none else some ((rd1 b).1, b.drop (rd1 b).2)
def pA : Nat → Int → List Int → Option (List Int × List Int)
  | 0, _, b => some ([], b)
  | k + 1, a, b => match nx b with
    | none => none
    | some (x, r) => (pA k (a + 1 + x) r).map fun y => ((a + 1 + x) :: y.1, y.2)
def pL : Nat → Int → List Int → Option (List S42 × List Int)
  | 0, _, b => some ([], b)
  | k + 1, d, b => (nx b).bind fun p => (nx p.2).bind fun q => (pA (q.1 + 1) (-1) q.2).bind fun f => (pL k (d + 1 + p.1) f.2).map fun z => (⟨d + 1 + p.1, f.1⟩ :: z.1, z.2)
def dec (b : List Int) : Option (List S42) := (nx b).bind fun p => (pL p.1 (-1) p.2).bind fun z => if z.2 = [] ∧ may z.1 = true then some z.1 else none

theorem nx_le {b r : List Int} {x : Nat} (h : nx b = some (x, r)) : x ≤ 2147483647 ∧ r = b.drop (rd1 b).2 ∧ x = (rd1 b).1 ∧ (rd1 b).2 ≠ 0 := by
  unfold nx at h
  split at h
  · cases h
  · simp only [Option.some.injEq, Prod.mk.injEq] at h
    exact ⟨by omega, h.2.symm, h.1.symm, by omega⟩
/-- What a next leaves. -/
def Stp (b : List Int) (bad : Bool) (x : Nat) (b' : List Int) (bad' : Bool) : Prop :=
  x ≤ 2147483647 ∧ (nx b = some (x, b') ∧ bad' = bad ∨ nx b = none ∧ x = 0 ∧ b' = b ∧ bad' = true)

/-! the loops' equations -/
def InA (K : Nat) (b0 : List Int) (bad0 : Bool) (k : Nat) (a : Int) (f b : List Int) (bad : Bool) : Prop :=
  (bad = false → bad0 = false ∧ pA K (-1) b0 = (pA k a b).map fun y => (f ++ y.1, y.2)) ∧ (bad = true → bad0 = true ∨ pA K (-1) b0 = none)
theorem InA.start (K : Nat) (b0 : List Int) (bad0 : Bool) : InA K b0 bad0 K (-1) [] b0 bad0 := by
  refine ⟨fun h => ⟨h, ?_⟩, fun h => .inl h⟩
  cases pA K (-1) b0 <;> rfl
theorem InA.step {K k : Nat} {b0 b b' f : List Int} {bad0 bad' : Bool} {a : Int} {x : Nat} (h : InA K b0 bad0 (k + 1) a f b false) (hs : Stp b false x b' bad') : InA K b0 bad0 k (a + 1 + x) (f ++ [a + 1 + x]) b' bad' := by
  obtain ⟨h0, h1⟩ := h.1 rfl
  rcases hs.2 with ⟨h2, rfl⟩ | ⟨h2, rfl, rfl, rfl⟩
  · refine ⟨fun _ => ⟨h0, ?_⟩, fun h => by cases h⟩
    rw [h1, pA, h2]
    simp only [Option.map_map]
    congr 1
    funext y
    simp
  · refine ⟨fun h => (by cases h), fun _ => .inr ?_⟩
    rw [h1, pA, h2]; rfl
def InL (N : Nat) (b0 : List Int) (bad0 : Bool) (k : Nat) (d : Int) (l : List S42) (b : List Int) (bad : Bool) : Prop :=
  (bad = false → bad0 = false ∧ pL N (-1) b0 = (pL k d b).map fun y => (l ++ y.1, y.2)) ∧ (bad = true → bad0 = true ∨ pL N (-1) b0 = none)
theorem InL.start (K : Nat) (b0 : List Int) (bad0 : Bool) : InL K b0 bad0 K (-1) [] b0 bad0 := by
  refine ⟨fun h => ⟨h, ?_⟩, fun h => .inl h⟩
  cases pL K (-1) b0 <;> rfl
theorem InL.step {N k x1 x2 k2 : Nat} {b0 b b1 b2 b3 f : List Int} {l : List S42} {bad0 bad1 bad2 bad3 : Bool} {d a : Int} (h : InL N b0 bad0 (k + 1) d l b false) (h1 : Stp b false x1 b1 bad1) (h2 : Stp b1 bad1 x2 b2 bad2) (h3 : InA (x2 + 1) b2 bad2 k2 a f b3 bad3) (hend : bad3 = false → k2 = 0) :
    InL N b0 bad0 k (d + 1 + x1) (l ++ [⟨d + 1 + x1, f⟩]) b3 bad3 := by
  obtain ⟨e0, e1⟩ := h.1 rfl
  cases bad3 with
  | false =>
    refine ⟨fun _ => ⟨e0, ?_⟩, fun h => by cases h⟩
    obtain ⟨g0, g1⟩ := h3.1 rfl
    rw [hend rfl] at g1
    subst g0
    rcases h2.2 with ⟨q2, q3⟩ | ⟨_, _, _, q3⟩
    · subst q3
      rcases h1.2 with ⟨p2, _⟩ | ⟨_, _, _, p3⟩
      · rw [show pA 0 a b3 = some ([], b3) from rfl] at g1
        rw [e1, pL, p2]
        simp only [Option.bind_some, q2, g1, Option.map_some, Option.map_map, List.append_nil]
        congr 1
        funext y
        simp
      · cases p3
    · cases q3
  | true =>
    refine ⟨fun h => (by cases h), fun _ => .inr ?_⟩
    rw [e1, pL]
    rcases h1.2 with ⟨p2, rfl⟩ | ⟨p2, _⟩
    · rw [p2]
      rcases h2.2 with ⟨q2, rfl⟩ | ⟨q2, _⟩
      · rcases h3.2 rfl with h4 | h4
        · cases h4
        · simp [q2, h4]
      · simp [q2]
    · rw [p2]; rfl
theorem dec_end {b b1 b2 : List Int} {bad1 bad2 : Bool} {x k : Nat} {d : Int} {l : List S42} (h1 : Stp b false x b1 bad1) (h2 : InL x b1 bad1 k d l b2 bad2) (hend : bad2 = false → k = 0) : dec b = if bad2 = false ∧ b2 = [] ∧ may l = true then some l else none := by
  unfold dec
  cases bad2 with
  | false =>
    obtain ⟨g0, g1⟩ := h2.1 rfl
    rw [hend rfl] at g1
    subst g0
    rcases h1.2 with ⟨p2, _⟩ | ⟨_, _, _, p3⟩
    · rw [p2]
      simp [g1, pL]
    · cases p3
  | true =>
    rw [if_neg (by simp)]
    rcases h1.2 with ⟨p2, rfl⟩ | ⟨p2, _⟩
    · rcases h2.2 rfl with h4 | h4
      · cases h4
      · simp [p2, h4]
    · rw [p2]; rfl

/-- Two rows, the second goes into the first. -/
theorem sep_rows {w0 w : World} {L : List Th} {α β : Type} {d : Kd α} {d2 : Kd β} {e e2 base : Nat} {v v2 : Value} {xs : List α} {ys : List β} (h : Sep w0 L w) (i j : Nat) (hij : i ≠ j) (hi : L[i]? = some (rowT d e base v xs)) (hj : L[j]? = some (rowT d2 e2 base v2 ys)) :
    ∃ ok okj : Nat → Prop, d.R e w base ok v xs ∧ d2.R e2 w base okj v2 ys ∧ (∀ k, okj k → ok k ∧ some k ≠ v.ownBlock) ∧ (∀ k, w.heap.size ≤ k → ok k) ∧
      ∀ (v1 : Value) (w1 : World) (xs1 : List α), d.R e w1 base ok v1 xs1 → w.grownBy w1 v.ownBlock → Sep w0 ((L.set i (rowT d e base v1 xs1)).set j noT) w1 := by
  obtain ⟨ok, h1, h2, h3, h4⟩ := h
  have hR : d.R e w base (ok i) v xs := h1 i _ hi
  have hR2 : d2.R e2 w base (ok j) v2 ys := h1 j _ hj
  refine ⟨fun b => ok i b ∨ ok j b ∨ w.heap.size ≤ b, ok j, Kd.R_mono hR (fun _ hk => .inl hk), hR2, fun k hk => ⟨.inr (.inl hk), fun he => h2 i j k hij (hR.1 k he.symm) hk⟩, fun k hk => .inr (.inr hk), fun v1 w1 xs1 hr hg => ?_⟩
  have hc : Chg (ok i) w w1 := (Chg.refl (ok i) w).grown hg (fun k hk => .inl (hR.1 k hk))
  have hil : i < L.length := (List.getElem?_eq_some_iff.1 hi).1
  have hjl : j < L.length := (List.getElem?_eq_some_iff.1 hj).1
  refine ⟨fun m b => if m = i then (ok i b ∨ ok j b ∨ w.heap.size ≤ b) ∧ b < w1.heap.size else if m = j then False else ok m b, ?_, ?_, ?_, ?_⟩
  · intro m U hm
    by_cases e2' : m = j
    · subst e2'
      rw [List.getElem?_set_self (by simpa using hjl)] at hm
      injection hm with hm
      subst hm
      trivial
    · rw [List.getElem?_set_ne (Ne.symm e2')] at hm
      by_cases e1 : m = i
      · subst e1
        rw [List.getElem?_set_self hil] at hm
        injection hm with hm
        subst hm
        simp only [if_true]
        exact (rowT d e base v1 xs1).bnd hr
      · rw [List.getElem?_set_ne (Ne.symm e1)] at hm
        simp only [if_neg e1, if_neg e2']
        exact U.loc (h1 m U hm) (fun b hb hlt => hc.keep b hlt (fun hb2 => h2 m i b e1 hb hb2))
  · intro m l b hml hm hl
    have old : ∀ m c, ok m c → c < w.heap.size := fun m c hm => (h3 m c hm).2
    have key : ∀ l, l ≠ i → l ≠ j → ok l b → ¬ (ok i b ∨ ok j b ∨ w.heap.size ≤ b) := by
      intro l h5 h6 h7 h8
      rcases h8 with h8 | h8 | h8
      · exact h2 l i b h5 h7 h8
      · exact h2 l j b h6 h7 h8
      · have := old l b h7; omega
    split at hm
    · split at hl
      · omega
      · split at hl
        · exact hl
        · rename_i a1 a2 a3
          exact key l a2 a3 hl hm.1
    · split at hm
      · exact hm
      · rename_i a1 a2
        split at hl
        · exact key m a1 a2 hm hl.1
        · split at hl
          · exact hl
          · exact h2 m l b hml hm hl
  · intro m b hm
    split at hm
    · refine ⟨?_, hm.2⟩
      rcases hm.1 with h5 | h5 | h5
      · exact (h3 i b h5).1
      · exact (h3 j b h5).1
      · have := h4.size; omega
    · split at hm
      · exact hm.elim
      · exact ⟨(h3 m b hm).1, Nat.lt_of_lt_of_le (h3 m b hm).2 hc.size⟩
  · exact hc.below_of h4 (fun b hb => (h3 i b hb).1)
end Go.Proofs.Ytpebemljgeammab.Pd
