/-
  The reference's Decompose and Opens, plainly; UcdPairs.
-/
import Derived.Test.YtfiihlgigeijcaaDoorVr
import Derived.Test.YtfiihlgigeijcaaDoorVi
import Derived.Test.YtfiihlgigeijcaaDoorXtremaref02Decompose
import Derived.Test.YtfiihlgigeijcaaDoorXtremaref02Opens
import Derived.Test.YtfiihlgigeijcaaDoorXtremalaw02UcdPairs
namespace Go.Proofs.YtfiihlgigeijcaaDoor.Vu
set_option linter.unusedVariables false
set_option linter.unusedSimpArgs false
open Go.RowKit Go.Proofs.YtfiihlgigeijcaaDoorW.PrintWords Go.Proofs.YtfiihlgigeijcaaDoor.Ev0 Go.Proofs.YtfiihlgigeijcaaDoor.X Go.Proofs.YtfiihlgigeijcaaDoor.Va Go.Proofs.YtfiihlgigeijcaaDoor.Vb Go.Proofs.YtfiihlgigeijcaaDoor.Vc Go.Proofs.YtfiihlgigeijcaaDoor.Vd Go.Proofs.YtfiihlgigeijcaaDoor.Ve Go.Proofs.YtfiihlgigeijcaaDoor.Vf Go.Proofs.YtfiihlgigeijcaaDoor.Vp Go.Proofs.YtfiihlgigeijcaaDoor.Vr

def parts (x : Int) : List Int := if (pairU x).2.2 = 1 then [(pairU x).1] else [(pairU x).1, (pairU x).2.1]
theorem getLt {l : List Int} {i : Nat} (h : i < l.length) : (i : Int) < (l.length : Int) := by omega
/-- The look for the first that decomposes. -/
theorem scan {l : List Int} {R : List Int} (hr : ∀ y ∈ l, I32 y) (hl : l.length ≤ 1000) (m : Nat) (hm : m ≤ l.length) (hz : ∀ i (h : i < m), (pairU (l[i]'(by omega))).2.2 = 0)
    (h : Ev (fun k => tremaref02_Decompose.l1 k l (-1) 0 0 0 (m : Int)) R) : Ev (fun k => tremaref02_Decompose.l0 k l) R := by
  refine Ev.step (fun k => tremaref02_Decompose.l0.eq_2 ..) ?_
  refine ev_range (n := m) (F := fun k i => tremaref02_Decompose.l1 k l (-1) 0 0 0 i) h (fun i hi ih => ?_) 0 (Nat.zero_le _)
  have hil : i < l.length := by omega
  have hy := hr _ (List.getElem_mem hil)
  unfold I32 at hy
  have hw := w64 (i := i) (by omega)
  have hzi := hz i hi
  refine Ev.step (fun k => tremaref02_Decompose.l1.eq_2 ..) ?_
  simp only [if_pos (getLt hil), show decide ((-1 : Int) < 0) = true from rfl]
  refine Ev.step (fun k => tremaref02_Decompose.j2.eq_2 ..) ?_
  simp only [if_true, if_pos (show (0 : Int) ≤ (i : Int) by omega), if_pos (getLt hil), rd_nat hil, tremaref02_Pair.f, if_pos hy, Option.bind_some, hzi, if_neg (show ¬ (0 : Int) > 0 by decide), hw]
  exact ih
theorem done {l : List Int} (hr : ∀ y ∈ l, I32 y) (hl : l.length ≤ 1000) (hz : ∀ y ∈ l, (pairU y).2.2 = 0) : Ev (fun k => tremaref02_Decompose.l0 k l) l := by
  refine scan hr hl l.length (Nat.le_refl _) (fun i h => hz _ (List.getElem_mem h)) ?_
  refine Ev.step (fun k => tremaref02_Decompose.l1.eq_2 ..) ?_
  simp only [if_neg (Int.lt_irrefl _)]
  refine Ev.step (fun k => tremaref02_Decompose.j2.eq_2 ..) ?_
  simp only [if_neg Bool.false_ne_true, if_pos (show (-1 : Int) < 0 by decide)]
  exact Ev.now _
def accU (p q : List Int) (x : Int) (i : Nat) : List Int := if i ≤ p.length then p.take i else p ++ parts x ++ q.take (i - p.length - 1)
theorem one {p q : List Int} {x : Int} {R : List Int} (hr : ∀ y ∈ p ++ [x] ++ q, I32 y) (hl : p.length + q.length ≤ 900) (hz : ∀ y ∈ p, (pairU y).2.2 = 0) (hx : (pairU x).2.2 = 1 ∨ (pairU x).2.2 = 2)
    (h : Ev (fun k => tremaref02_Decompose.l0 k (p ++ parts x ++ q)) R) : Ev (fun k => tremaref02_Decompose.l0 k (p ++ [x] ++ q)) R := by
  obtain ⟨l, hll⟩ : ∃ l, l = p ++ [x] ++ q := ⟨_, rfl⟩
  have hlen : l.length = p.length + 1 + q.length := by rw [hll]; simp; omega
  have hxx := hr x (by simp)
  unfold I32 at hxx
  have hpl : p.length < l.length := by omega
  have hpx : l[p.length]'hpl = x := by subst hll; simp
  have hpi : ∀ i (h : i < p.length), l[i]'(by omega) = p[i] := fun i h => by subst hll; simp [List.getElem_append, h]
  have hqi : ∀ i (h : i < q.length), l[p.length + 1 + i]'(by omega) = q[i] := fun i h => by
    subst hll
    rw [List.getElem_append_right (by simp)]
    congr 1
    simp
  rw [← hll] at hr ⊢
  clear hll
  refine scan hr (by omega) p.length (by omega) (fun i h => by rw [hpi i h]; exact hz _ (List.getElem_mem h)) ?_
  have hw := w64 (i := p.length) (by omega)
  refine Ev.step (fun k => tremaref02_Decompose.l1.eq_2 ..) ?_
  simp only [if_pos (getLt hpl), show decide ((-1 : Int) < 0) = true from rfl]
  refine Ev.step (fun k => tremaref02_Decompose.j2.eq_2 ..) ?_
  simp only [if_true, if_pos (show (0 : Int) ≤ (p.length : Int) by omega), if_pos (getLt hpl), rd_nat hpl, hpx, tremaref02_Pair.f, if_pos hxx, Option.bind_some, if_pos (show (pairU x).2.2 > 0 by omega), hw]
  have key : Ev (fun k => tremaref02_Decompose.j2 k l (p.length : Int) (pairU x).1 (pairU x).2.1 (pairU x).2.2 ((p.length + 1 : Nat) : Int) false) R := by
    refine Ev.step (fun k => tremaref02_Decompose.j2.eq_2 ..) ?_
    simp only [if_neg Bool.false_ne_true, if_neg (show ¬ (p.length : Int) < 0 by omega)]
    have start : accU p q x (0 : Int).toNat = [] := by simp [accU]
    have hacc : ∀ i, (accU p q x i).length ≤ 1000 := fun i => by
      unfold accU parts
      split
      · rw [List.length_take]; omega
      · split <;> simp <;> omega
    have loop := ev_range (n := l.length) (r := R) (F := fun k i => tremaref02_Decompose.l2 k l (p.length : Int) (pairU x).1 (pairU x).2.1 (pairU x).2.2 (accU p q x i.toNat) i) ?_ ?_ 0 (Nat.zero_le _)
    · have := loop
      simp only [Int.natCast_zero, start] at this
      exact this
    · refine Ev.step (fun k => tremaref02_Decompose.l2.eq_2 ..) ?_
      simp only [if_neg (Int.lt_irrefl _), Int.toNat_natCast]
      have he : accU p q x l.length = p ++ parts x ++ q := by
        unfold accU
        rw [if_neg (by omega), hlen, show p.length + 1 + q.length - p.length - 1 = q.length by omega, List.take_length]
      rw [he]
      exact h
    · intro i hi ih
      have hwi := w64 (i := i) (by omega)
      simp only [Int.toNat_natCast] at ih ⊢
      have ha := hacc i
      refine Ev.step (fun k => tremaref02_Decompose.l2.eq_2 ..) ?_
      simp only [if_pos (getLt hi), hwi]
      by_cases e : i = p.length
      · have ea : accU p q x (i + 1) = accU p q x i ++ parts x := by
          subst e
          unfold accU
          rw [if_neg (by omega), if_pos (Nat.le_refl _)]
          simp
        rw [ea] at ih
        simp only [if_pos (show (i : Int) = (p.length : Int) by omega)]
        rcases hx with h1 | h2
        · have hp : parts x = [(pairU x).1] := by unfold parts; rw [if_pos h1]
          rw [hp] at ih
          simp only [if_pos h1, if_pos (show (accU p q x i).length < 35184372088832 by omega)]
          exact ih
        · have hp : parts x = [(pairU x).1, (pairU x).2.1] := by unfold parts; rw [if_neg (by omega)]
          rw [hp] at ih
          simp only [if_neg (show ¬ (pairU x).2.2 = 1 by omega), Option.bind_some, if_pos (show (accU p q x i).length + ([(pairU x).1, (pairU x).2.1] : List Int).length < 35184372088832 by simp; omega)]
          exact ih
      · have ea : accU p q x (i + 1) = accU p q x i ++ [l[i]] := by
          unfold accU
          by_cases e2 : i < p.length
          · rw [if_pos (by omega), if_pos (by omega), hpi i e2, List.take_succ_eq_append_getElem e2]
          · obtain ⟨j, rfl⟩ : ∃ j, i = p.length + 1 + j := ⟨i - p.length - 1, by omega⟩
            have hj : j < q.length := by omega
            rw [if_neg (by omega), if_neg (by omega), hqi j hj, show p.length + 1 + j + 1 - p.length - 1 = j + 1 by omega, show p.length + 1 + j - p.length - 1 = j by omega, List.take_succ_eq_append_getElem hj]
            simp
        rw [ea] at ih
        simp only [if_neg (show ¬ (i : Int) = (p.length : Int) by omega), if_pos (show (0 : Int) ≤ (i : Int) by omega), if_pos (show (accU p q x i).length < 35184372088832 by omega), rd_nat hi]
        exact ih
  refine Ev.step (fun k => tremaref02_Decompose.l1.eq_2 ..) ?_
  by_cases hc : ((p.length + 1 : Nat) : Int) < (l.length : Int)
  · simp only [if_pos hc, decide_eq_false (show ¬ (p.length : Int) < 0 by omega)]
    exact key
  · simp only [if_neg hc]
    exact key
theorem decF_zeroes : ∀ (k : Nat) (x : Int), okF k x = true → (∀ y ∈ decF k x, (pairU y).2.2 = 0) ∧ (I32 x → ∀ y ∈ decF k x, I32 y)
  | 0, x, h => absurd h (by simp [okF])
  | k + 1, x, h => by
    have hp := pair_range x
    have ia : I32 (pairU x).1 := by unfold I32; omega
    have ib : I32 (pairU x).2.1 := by unfold I32; omega
    rw [okF] at h
    rw [decF]
    by_cases h0 : (pairU x).2.2 = 0
    · rw [if_pos h0]
      exact ⟨fun y hy => by simp at hy; subst hy; exact h0, fun hx y hy => by simp at hy; subst hy; exact hx⟩
    · rw [if_neg h0] at h ⊢
      by_cases h1 : (pairU x).2.2 = 1
      · rw [if_pos h1] at h ⊢
        have i1 := decF_zeroes k _ h
        exact ⟨i1.1, fun _ => i1.2 ia⟩
      · rw [if_neg h1, Bool.and_eq_true] at h
        rw [if_neg h1]
        have i1 := decF_zeroes k _ h.1
        have i2 := decF_zeroes k _ h.2
        refine ⟨fun y hy => ?_, fun _ y hy => ?_⟩
        · rcases List.mem_append.1 hy with hy | hy
          · exact i1.1 y hy
          · exact i2.1 y hy
        · rcases List.mem_append.1 hy with hy | hy
          · exact i1.2 ia y hy
          · exact i2.2 ib y hy
theorem expand : ∀ (k : Nat) (x : Int) (p q R : List Int), okF k x = true → (∀ y ∈ p ++ [x] ++ q, I32 y) → p.length + 2 ^ k + q.length ≤ 900 → (∀ y ∈ p, (pairU y).2.2 = 0) →
    Ev (fun n => tremaref02_Decompose.l0 n (p ++ decF k x ++ q)) R → Ev (fun n => tremaref02_Decompose.l0 n (p ++ [x] ++ q)) R
  | 0, x, p, q, R, h, _, _, _, _ => absurd h (by simp [okF])
  | k + 1, x, p, q, R, h, hr, hl, hz, hE => by
    have hp := pair_range x
    have ia : I32 (pairU x).1 := by unfold I32; omega
    have ib : I32 (pairU x).2.1 := by unfold I32; omega
    have hpow : 0 < 2 ^ k := Nat.two_pow_pos k
    rw [Nat.pow_succ] at hl
    have hrp : ∀ y ∈ p, I32 y := fun y hy => hr y (by simp [hy])
    have hrq : ∀ y ∈ q, I32 y := fun y hy => hr y (by simp [hy])
    rw [okF] at h
    rw [decF] at hE
    by_cases h0 : (pairU x).2.2 = 0
    · rw [if_pos h0] at hE
      exact hE
    · rw [if_neg h0] at h hE
      by_cases h1 : (pairU x).2.2 = 1
      · rw [if_pos h1] at h hE
        refine one hr (by omega) hz (.inl h1) ?_
        have hpa : parts x = [(pairU x).1] := by unfold parts; rw [if_pos h1]
        rw [hpa]
        exact expand k _ p q R h (fun y hy => by simp at hy; rcases hy with hy | rfl | hy; exact hrp y hy; exact ia; exact hrq y hy) (by omega) hz hE
      · rw [if_neg h1] at h hE
        rw [Bool.and_eq_true] at h
        refine one hr (by omega) hz (.inr (by omega)) ?_
        have hpa : parts x = [(pairU x).1, (pairU x).2.1] := by unfold parts; rw [if_neg h1]
        rw [hpa, show p ++ [(pairU x).1, (pairU x).2.1] ++ q = p ++ [(pairU x).1] ++ ((pairU x).2.1 :: q) by simp]
        refine expand k _ p _ R h.1 (fun y hy => by simp at hy; rcases hy with hy | rfl | rfl | hy; exact hrp y hy; exact ia; exact ib; exact hrq y hy) (by simp; omega) hz ?_
        rw [show p ++ decF k (pairU x).1 ++ ((pairU x).2.1 :: q) = (p ++ decF k (pairU x).1) ++ [(pairU x).2.1] ++ q by simp]
        have i1 := decF_zeroes k _ h.1
        have hlen := decF_len k (pairU x).1
        refine expand k _ _ q R h.2 (fun y hy => ?_) (by rw [List.length_append]; omega) (fun y hy => ?_) (by simpa using hE)
        · simp at hy
          rcases hy with hy | hy | rfl | hy
          · exact hrp y hy
          · exact i1.2 ia y hy
          · exact ib
          · exact hrq y hy
        · rcases List.mem_append.1 hy with hy | hy
          · exact hz y hy
          · exact i1.1 y hy
theorem refdec (r : Int) (hr : I32 r) : Ev (fun k => tremaref02_Decompose.f k r) (decU r) := by
  unfold tremaref02_Decompose.f
  have hz := decF_zeroes 4 r (okAll r)
  have hlen : (decU r).length ≤ 2 ^ 4 := decF_len 4 r
  refine expand 4 r [] [] _ (okAll r) (fun y hy => by simp at hy; subst hy; exact hr) (by decide) (by simp) ?_
  rw [List.nil_append, List.append_nil]
  exact done (hz.2 hr) (by have h2 : (decF 4 r).length ≤ 2 ^ 4 := decF_len 4 r; omega) hz.1
theorem refopn (r : Int) (hr : I32 r) : Ev (fun k => tremaref02_Opens.f k r) (opn r) := by
  unfold tremaref02_Opens.f
  refine Ev.bind (refdec r hr) ?_
  have hb := (bottom r hr).lo
  have ho : opn r = ((cls ((decU r).getD 0 0) == 0) && !trl ((decU r).getD 0 0)) := rfl
  have hrd : rd (decU r) 0 = (decU r).getD 0 0 := rfl
  obtain ⟨d, hd⟩ : ∃ d, d = decU r := ⟨_, rfl⟩
  rw [← hd] at hb ho hrd ⊢
  simp only [if_pos (show (0 : Int) < (d.length : Int) by omega), hrd]
  refine Ev.bind (clsEv _) ?_
  rw [ho]
  by_cases h0 : cls (d.getD 0 0) = 0
  · simp only [if_pos h0, reftrl, Option.bind_some, h0, beq_self_eq_true, Bool.true_and]
    exact Ev.now _
  · simp only [if_neg h0, beq_eq_false_iff_ne.2 h0, Bool.false_and]
    exact Ev.now _
theorem UcdPairs (l : List Int) (hwf : ∀ x ∈ l, (Lit.int .i32 x).wf = true) (hl : l.length * 4 ≤ 140737488351232) : ∃ k, tremalaw02_UcdPairs.f k l = some true := by
  apply Ev.rounds (g := fun k => tremalaw02_UcdPairs.f k l)
  unfold tremalaw02_UcdPairs.f
  refine Ev.bind fixEv ?_
  simp only [if_true]
  refine ev_list (l := l) (F := fun k i => tremalaw02_UcdPairs.l0 k l (l.length : Int) i) ?_ ?_
  · refine Ev.step (fun k => tremalaw02_UcdPairs.l0.eq_2 ..) ?_
    simp only [if_neg (Int.lt_irrefl _)]
    exact Ev.now _
  · intro i x hi hx hrd ih
    have hw := w64 (i := i) (by omega)
    have hx32 := wf32 (hwf x hx)
    have hd := refdec x hx32
    have ho := refopn x hx32
    have hlen : (decU x).length ≤ 2 ^ 4 := decF_len 4 x
    unfold I32 at hx32
    refine Ev.step (fun k => tremalaw02_UcdPairs.l0.eq_2 ..) ?_
    simp only [if_pos (getLt hi), if_pos (show (0 : Int) ≤ (i : Int) by omega), hrd, ucd_Pair.f, tremaref02_Pair.f, if_pos hx32, Option.bind_some, if_true, ucd_Decompose.f, ucd_Opens.f, hw]
    refine Ev.bind hd ?_
    refine Ev.bind (sameEv _ _ (by omega)) ?_
    simp only [decide_true, if_true]
    refine Ev.bind ho ?_
    simp only [bne_self_eq_false, if_neg Bool.false_ne_true]
    exact ih
end Go.Proofs.YtfiihlgigeijcaaDoor.Vu
