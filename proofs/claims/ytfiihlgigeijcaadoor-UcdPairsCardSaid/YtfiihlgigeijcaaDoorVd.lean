/-
  Full decompositions, plainly; ucd.Decompose walked.
-/
import Derived.Test.YtfiihlgigeijcaaDoorVc
import Derived.Test.YtfiihlgigeijcaaDoorWRepsOne
namespace Go.Proofs.YtfiihlgigeijcaaDoor.Vd
set_option linter.unusedVariables false
set_option linter.unusedSimpArgs false
open Go.RowKit Go.Proofs.YtfiihlgigeijcaaDoorW.PrintWords Go.Proofs.YtfiihlgigeijcaaDoor.Hp Go.Proofs.YtfiihlgigeijcaaDoor.Va Go.Proofs.YtfiihlgigeijcaaDoor.Vc

/-! plain -/
def decF : Nat → Int → List Int
  | 0, r => [r]
  | k + 1, r => if (pairU r).2.2 = 0 then [r] else if (pairU r).2.2 = 1 then decF k (pairU r).1 else decF k (pairU r).1 ++ decF k (pairU r).2.1
def okF : Nat → Int → Bool
  | 0, _ => false
  | k + 1, r => if (pairU r).2.2 = 0 then true else if (pairU r).2.2 = 1 then okF k (pairU r).1 else okF k (pairU r).1 && okF k (pairU r).2.1
def keys : List Int := (List.range 192).map (fun i : Nat => (192 : Int) + (i : Int)) ++ prsT.map (·.1)
theorem prsF_none (r : Int) : ∀ l : List (Int × Int × Int), r ∉ l.map (·.1) → prsF r l = (0, 0, 0)
  | [], _ => rfl
  | p :: t, h => by
    simp only [List.map_cons, List.mem_cons, not_or] at h
    rw [prsF, if_neg (fun e => h.1 e.symm), prsF_none r t h.2]
theorem pair_zero (r : Int) (hs : ¬ (44032 ≤ r ∧ r ≤ 55203)) (hk : r ∉ keys) : pairU r = (0, 0, 0) := by
  unfold keys at hk
  rw [List.mem_append, not_or] at hk
  have h1 : ¬ (192 ≤ r ∧ r < 384) := fun h => hk.1 (List.mem_map.2 ⟨(r - 192).toNat, List.mem_range.2 (by omega), by omega⟩)
  unfold pairU
  rw [if_neg hs, if_neg (by omega), if_pos (by omega)]
  exact prsF_none r _ hk.2
theorem syl_pair (s : Nat) (hs : s ≤ 11171) : pairU (44032 + (s : Int)) = if s % 28 = 0 then (4352 + ((s / 588 : Nat) : Int), 4449 + ((s % 588 / 28 : Nat) : Int), 2) else (44032 + (s : Int) - ((s % 28 : Nat) : Int), 4519 + ((s % 28 : Nat) : Int), 2) := by
  have e1 : 44032 + (s : Int) - 44032 = (s : Int) := by omega
  unfold pairU
  rw [if_pos ⟨by omega, by omega⟩, e1]
  by_cases h : s % 28 = 0
  · rw [if_pos (by omega), if_pos h]
    congr 1
  · rw [if_neg (by omega), if_neg h]
    congr 1
/-- Every number is a key, or a syllable, or it doesn't decompose. -/
theorem cases3 (r : Int) : r ∈ keys ∨ (∃ s : Nat, s ≤ 11171 ∧ r = 44032 + (s : Int)) ∨ pairU r = (0, 0, 0) := by
  by_cases hk : r ∈ keys
  · exact .inl hk
  · by_cases hs : 44032 ≤ r ∧ r ≤ 55203
    · exact .inr (.inl ⟨(r - 44032).toNat, by omega, by omega⟩)
    · exact .inr (.inr (pair_zero r hs hk))
theorem jamo_none : ∀ k ∈ keys, k < 4352 ∨ 4546 < k := by decide +kernel
theorem jamo_zero (r : Int) (h : 4352 ≤ r ∧ r ≤ 4546) : pairU r = (0, 0, 0) := pair_zero r (by omega) (fun hk => by have := jamo_none r hk; omega)
theorem keys_pair : ∀ k ∈ keys, (0 ≤ (pairU k).1 ∧ (pairU k).1 < 65536) ∧ (0 ≤ (pairU k).2.1 ∧ (pairU k).2.1 < 65536) ∧ (0 ≤ (pairU k).2.2 ∧ (pairU k).2.2 < 3) ∧ okF 4 k = true := by decide +kernel
theorem okF_zero (k : Nat) (r : Int) (h : pairU r = (0, 0, 0)) : okF (k + 1) r = true := by rw [okF, h]; rfl
theorem decF_zero (k : Nat) (r : Int) (h : pairU r = (0, 0, 0)) : decF k r = [r] := by cases k with
  | zero => rfl
  | succ k => rw [decF, h]; rfl
theorem syl_lv (s : Nat) (hs : s ≤ 11171) (ht : s % 28 = 0) (k : Nat) : okF (k + 2) (44032 + (s : Int)) = true ∧ decF (k + 1) (44032 + (s : Int)) = [4352 + ((s / 588 : Nat) : Int), 4449 + ((s % 588 / 28 : Nat) : Int)] := by
  have h := syl_pair s hs
  rw [if_pos ht] at h
  have z1 := jamo_zero (4352 + ((s / 588 : Nat) : Int)) (by omega)
  have z2 := jamo_zero (4449 + ((s % 588 / 28 : Nat) : Int)) (by omega)
  rw [okF, decF, h]
  simp only [okF_zero _ _ z1, okF_zero _ _ z2, decF_zero _ _ z1, decF_zero _ _ z2]
  exact ⟨rfl, rfl⟩
theorem syl_all (s : Nat) (hs : s ≤ 11171) (k : Nat) : okF (k + 3) (44032 + (s : Int)) = true ∧ decF (k + 2) (44032 + (s : Int)) = [4352 + ((s / 588 : Nat) : Int), 4449 + ((s % 588 / 28 : Nat) : Int)] ++ if s % 28 = 0 then [] else [4519 + ((s % 28 : Nat) : Int)] := by
  by_cases ht : s % 28 = 0
  · have := syl_lv s hs ht (k + 1)
    rw [if_pos ht, List.append_nil]
    exact this
  · have h := syl_pair s hs
    rw [if_neg ht] at h ⊢
    have h1 := syl_lv (s - s % 28) (by omega) (by omega) k
    have z2 := jamo_zero (4519 + ((s % 28 : Nat) : Int)) (by omega)
    rw [show 44032 + ((s - s % 28 : Nat) : Int) = 44032 + (s : Int) - ((s % 28 : Nat) : Int) by omega, show (s - s % 28) / 588 = s / 588 by omega, show (s - s % 28) % 588 / 28 = s % 588 / 28 by omega] at h1
    rw [okF, decF, h]
    simp only [h1.1, h1.2, okF_zero _ _ z2, decF_zero _ _ z2]
    exact ⟨rfl, rfl⟩
theorem okAll (r : Int) : okF 4 r = true := by
  rcases cases3 r with h | ⟨s, hs, rfl⟩ | h
  · exact (keys_pair r h).2.2.2
  · exact (syl_all s hs 1).1
  · exact okF_zero _ _ h
def decU (r : Int) : List Int := decF 4 r
theorem pair_range (r : Int) : (0 ≤ (pairU r).1 ∧ (pairU r).1 < 65536) ∧ (0 ≤ (pairU r).2.1 ∧ (pairU r).2.1 < 65536) ∧ (0 ≤ (pairU r).2.2 ∧ (pairU r).2.2 < 3) := by
  rcases cases3 r with h | ⟨s, hs, rfl⟩ | h
  · have := keys_pair r h
    exact ⟨this.1, this.2.1, this.2.2.1⟩
  · rw [syl_pair s hs]
    split <;> simp only <;> omega
  · rw [h]; simp
theorem decF_len : ∀ (k : Nat) (r : Int), (decF k r).length ≤ 2 ^ k
  | 0, _ => by simp [decF]
  | k + 1, r => by
    have h1 := decF_len k (pairU r).1
    have h2 := decF_len k (pairU r).2.1
    have h3 : 0 < 2 ^ k := Nat.two_pow_pos k
    rw [decF, Nat.pow_succ]
    split
    · simp; omega
    · split
      · omega
      · rw [List.length_append]; omega

/-! walked -/
abbrev K3 : Kd Int := Kd.int .i32
theorem info_3 : (Tryd.prog.info? 21).map (fun i => (i.zero, i.size, i.bytes)) = some (some (.int .i32 0), 1, 4) := by kernel_rfl
theorem K3_KM {w w' : World} {base : Nat} {ok : Nat → Prop} (x : Int) (cs : List Value) (h : K3.K w x cs) : K3.M w' base ok x cs := h
/-- A new row. -/
def NewR (w : World) (l : List Int) (e : Ending) (w' : World) : Prop := ∃ v, e = .returned v ∧ K3.R 21 w' w.heap.size (fun _ => True) v l ∧ Below w.heap.size w w'
theorem lit1 {w : World} {B : Nat} (hB : B ≤ w.heap.size) (a : Int) : K3.R 21 (w.alloc (.cells #[.int .i32 a] 21)) B (fun _ => True) (.slice (some ⟨w.heap.size, 0, none⟩) 1 1) [a] := by
  refine ⟨fun _ _ => trivial, [.int .i32 a], ?_, Reps.one (show Kd.M K3 _ _ _ a [.int .i32 a] from rfl) (Reps.none _ _)⟩
  have h2 := World.ownsRow_lit (base := B) (e := 21) (size := 1) w #[.int .i32 a] 1 hB (by decide) rfl
  exact h2
set_option maxRecDepth 100000 in
set_option maxHeartbeats 1000000 in
theorem DecF : ∀ (k : Nat) (_ : k ≤ 4) (w : World) (_ : G w) (r : Int) (_ : -2147483648 ≤ r ∧ r ≤ 2147483647) (_ : okF k r = true), Calls Tryd.prog 21 #[.int .i32 r] w (NewR w (decF k r)) := by
  intro k
  induction k with
  | zero => intro hk4 w hG r hr ho; exact absurd ho (by simp [okF])
  | succ k ih =>
    intro hk4 w hG r hr ho
    have HG := Aside0.mk hG
    have HO := Aside0.mk ho
    have HI := Aside0.mk (ih (by omega))
    have HR := Aside0.mk hr
    have HP := Aside0.mk (pair_range r)
    have HD := Aside0.mk (show decF (k + 1) r = if (pairU r).2.2 = 0 then [r] else if (pairU r).2.2 = 1 then decF k (pairU r).1 else decF k (pairU r).1 ++ decF k (pairU r).2.1 from rfl)
    have HO1 := Aside0.mk (show okF (k + 1) r = if (pairU r).2.2 = 0 then true else if (pairU r).2.2 = 1 then okF k (pairU r).1 else okF k (pairU r).1 && okF k (pairU r).2.1 from rfl)
    clear hG ho ih hr
    have hPP := PairP w HG.out r HR.out
    unfold PairPost at hPP
    obtain ⟨⟨a, b, n⟩, hp⟩ : ∃ p, p = pairU r := ⟨_, rfl⟩
    rw [← hp] at hPP HP HD HO1
    have HPP := Aside0.mk hPP
    clear hPP hp
    simp only at HPP HP HD HO1
    obtain ⟨HP⟩ := HP
    obtain ⟨⟨a0, a1⟩, ⟨b0, b1⟩, n0, n1⟩ := HP
    by_cases h0 : n = 0
    · subst h0
      rw [HD.out, if_pos rfl]
      clear HD HO1 HO
      go_enter Tryd.func21, Tryd.ntmps21
      go_wp2_with (first | (go_at_call 18; go_must (refine HPP.out.mono ?_; rintro e w1 ⟨rfl, p1⟩; have P1 := Aside0.mk p1; clear p1)))
      go_ret
      exact ⟨_, rfl, lit1 P1.out.size r, below_then P1.out P1.out.size (below_alloc (Below.refl _ _) _)⟩
    · by_cases h1 : n = 1
      · subst h1
        have e0 : ((1 : Int) == 0) = false := rfl
        rw [HD.out, if_neg (by decide), if_pos rfl]
        have HO2 := Aside0.mk (show okF k a = true by have h := HO1.out; rw [if_neg (by decide), if_pos rfl] at h; rw [← h]; exact HO.out)
        clear HD HO1 HO
        go_enter Tryd.func21, Tryd.ntmps21
        go_wp2_with (first | (go_at_call 18; go_must (refine HPP.out.mono ?_; rintro e w1 ⟨rfl, p1⟩; have P1 := Aside0.mk p1; clear p1)) | (go_at_call 21; go_must (refine (HI.out w1 (HG.out.below P1.out) a ⟨by omega, by omega⟩ HO2.out).mono ?_; rintro e w2 ⟨v2, rfl, r2, p2⟩; have R2 := Aside0.mk r2; have P2 := Aside0.mk p2; clear r2 p2)))
        go_ret
        exact ⟨_, rfl, Kd.R_lower R2.out P1.out.size, below_then P1.out P1.out.size P2.out⟩
      · have h2 : n = 2 := by omega
        subst h2
        rw [HD.out, if_neg (by decide), if_neg (by decide)]
        have HO2 := Aside0.mk (show okF k a = true ∧ okF k b = true by have h := HO1.out; rw [if_neg (by decide), if_neg (by decide)] at h; rw [← Bool.and_eq_true, ← h]; exact HO.out)
        clear HD HO1 HO
        have la := decF_len k a
        have lb := decF_len k b
        obtain ⟨x, hx⟩ : ∃ x, x = decF k a := ⟨_, rfl⟩
        obtain ⟨y, hy⟩ : ∃ y, y = decF k b := ⟨_, rfl⟩
        have HL := Aside0.mk (show x.length + y.length ≤ 1000 by rw [hx, hy]; have := Nat.pow_le_pow_right (n := 2) (by decide) (show k ≤ 4 by omega); omega)
        have HA := Aside0.mk (fun w2 h => HI.out w2 h a ⟨by omega, by omega⟩ HO2.out.1)
        have HB := Aside0.mk (fun w2 h => HI.out w2 h b ⟨by omega, by omega⟩ HO2.out.2)
        rw [← hx] at HA ⊢
        rw [← hy] at HB ⊢
        clear hx hy la lb
        go_enter Tryd.func21, Tryd.ntmps21
        go_wp2_with (first | (go_at_call 18; go_must (refine HPP.out.mono ?_; rintro e w1 ⟨rfl, p1⟩; have P1 := Aside0.mk p1; clear p1)) | (go_at_call 21; refine (HA.out w1 (HG.out.below P1.out)).mono ?_; rintro e w2 ⟨v2, rfl, r2, p2⟩; have R2 := Aside0.mk r2; have P2 := Aside0.mk (below_then P1.out P1.out.size p2); clear r2 p2 HA) | (go_at_call 21; go_must (refine (HB.out w2 (HG.out.below P2.out)).mono ?_; rintro e w3 ⟨v3, rfl, r3, p3⟩; obtain ⟨A3, c3, rfl, hc3, hC3⟩ := Kd.R_reads r3; have C3 := Aside0.mk hC3; have R3 := Aside0.mk (Kd.R_below (Kd.R_lower R2.out P1.out.size) p3); have P3 := Aside0.mk (below_then P2.out P2.out.size p3); clear r3 p3 hC3)) | (at_builtin; go_must (refine Kd.R_append_rows K3 (Rr := K3.K w3) (w0 := w) w.heap.size rfl (.tmp 22) (.tmp 24) 22 21 (.int .i32 0) 4 rfl Tryd.underlying22 info_3 rfl (by decide) (by decide) v2 x y A3 _ c3 (fun _ => True) (fun _ => False) rfl rfl R3.out C3.out (fun x cs h => K3_KM x cs h) (fun _ h => h.elim) (fun _ _ => trivial) P3.out P3.out.size ?hl ?hh)))
        case hl => have := HL.out; omega
        case hh =>
          intro v1 w4 hR hb4 hg4 hat4
          have R4 := Aside0.mk hR
          have P4 := Aside0.mk hb4
          clear hR hb4 hg4 hat4
          go_wp2
          go_ret
          exact ⟨_, rfl, R4.out, P4.out⟩
theorem DecP (w : World) (hG : G w) (r : Int) (hr : -2147483648 ≤ r ∧ r ≤ 2147483647) : Calls Tryd.prog 21 #[.int .i32 r] w (NewR w (decU r)) := DecF 4 (by decide) w hG r hr (okAll r)
end Go.Proofs.YtfiihlgigeijcaaDoor.Vd
namespace Go.Proofs.YtfiihlgigeijcaaDoor.X
open Go.RowKit Go.Proofs.YtfiihlgigeijcaaDoorW.PrintWords
def ucd_Decompose.f (a0 : Int) : Option (List Int) := if -2147483648 ≤ a0 ∧ a0 ≤ 2147483647 then some (Vd.decU a0) else none
theorem ucd_Decompose.calls (a0 : Int) (r : List Int) (w : World) (h : ucd_Decompose.f a0 = some r) (hG0 : Va.G w) : Calls Tryd.prog 21 #[.int .i32 a0] w fun e w' => ∃ v0_ : Value, e = .returned (v0_) ∧ Kd.R (Kd.int .i32) 21 w' w.heap.size (fun _ => True) v0_ r ∧ Below w.heap.size w w' := by
  unfold ucd_Decompose.f at h
  split at h
  · rename_i hr
    obtain rfl := Option.some.inj h
    exact Vd.DecP w hG0 a0 hr
  · cases h
end Go.Proofs.YtfiihlgigeijcaaDoor.X
