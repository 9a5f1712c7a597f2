/-
  Several texts of this claim in one: what its law's proof uses.
-/
import Derived.Test.YtiggjbclbdikmaaDoorMU1
import Derived.Test.YtiggjbclbdikmaaDoorMU0
import Derived.WalkSpells
import Derived.WalkLawsBesides
namespace Go.Proofs.YtiggjbclbdikmaaDoor.Vd
set_option linter.unusedVariables false
set_option linter.unusedSimpArgs false
open Go.RowKit Go.Proofs.YtiggjbclbdikmaaDoorW.PrintWords Go.Proofs.YtiggjbclbdikmaaDoor.Hp Go.Proofs.YtiggjbclbdikmaaDoor.Va Go.Proofs.YtiggjbclbdikmaaDoor.Vc
def decF : Nat → Int → List Int
  | 0, r => [r]
  | k + 1, r => if (pairU r).2.2 = 0 then [r] else if (pairU r).2.2 = 1 then decF k (pairU r).1 else decF k (pairU r).1 ++ decF k (pairU r).2.1
def okF : Nat → Int → Bool
  | 0, _ => false
  | k + 1, r => if (pairU r).2.2 = 0 then true else if (pairU r).2.2 = 1 then okF k (pairU r).1 else okF k (pairU r).1 && okF k (pairU r).2.1
def keys : List Int := (List.range 192).map (fun i : Nat => (192 : Int) + (i : Int)) ++ prsT.map (·.1)
theorem prsF_none (r : Int) : ∀ l : List (Int × Int × Int), r ∉ l.map (·.1) → prsF r l = (0, 0, 0)
  | [], _ => rfl
  | p :: t, h => by
    simp only [List.map_cons, List.mem_cons, not_or] at h
    rw [prsF, if_neg (fun e => h.1 e.symm), prsF_none r t h.2]
theorem pair_zero (r : Int) (hs : ¬ (44032 ≤ r ∧ r ≤ 55203)) (hk : r ∉ keys) : pairU r = (0, 0, 0) := by
  unfold keys at hk
  rw [List.mem_append, not_or] at hk
  have h1 : ¬ (192 ≤ r ∧ r < 384) := fun h => hk.1 (List.mem_map.2 ⟨(r - 192).toNat, List.mem_range.2 (by omega), by omega⟩)
  unfold pairU
  rw [if_neg hs, if_neg (by omega), if_pos (by omega)]
  exact prsF_none r _ hk.2
theorem syl_pair (s : Nat) (hs : s ≤ 11171) : pairU (44032 + (s : Int)) = if s % 28 = 0 then (4352 + ((s / 588 : Nat) : Int), 4449 + ((s % 588 / 28 : Nat) : Int), 2) else (44032 + (s : Int) - ((s % 28 : Nat) : Int), 4519 + ((s % 28 : Nat) : Int), 2) := by
  have e1 : 44032 + (s : Int) - 44032 = (s : Int) := by omega
  unfold pairU
  rw [if_pos ⟨by omega, by omega⟩, e1]
  by_cases h : s % 28 = 0
  · rw [if_pos (by omega), if_pos h]
    congr 1
  · rw [if_neg (by omega), if_neg h]
    congr 1
theorem cases3 (r : Int) : r ∈ keys ∨ (∃ s : Nat, s ≤ 11171 ∧ r = 44032 + (s : Int)) ∨ pairU r = (0, 0, 0) := by
  by_cases hk : r ∈ keys
  · exact .inl hk
  · by_cases hs : 44032 ≤ r ∧ r ≤ 55203
    · exact .inr (.inl ⟨(r - 44032).toNat, by omega, by omega⟩)
    · exact .inr (.inr (pair_zero r hs hk))
theorem jamo_none : ∀ k ∈ keys, k < 4352 ∨ 4546 < k := by decide +kernel
theorem jamo_zero (r : Int) (h : 4352 ≤ r ∧ r ≤ 4546) : pairU r = (0, 0, 0) := pair_zero r (by omega) (fun hk => by have := jamo_none r hk; omega)
theorem keys_pair : ∀ k ∈ keys, (0 ≤ (pairU k).1 ∧ (pairU k).1 < 65536) ∧ (0 ≤ (pairU k).2.1 ∧ (pairU k).2.1 < 65536) ∧ (0 ≤ (pairU k).2.2 ∧ (pairU k).2.2 < 3) ∧ okF 4 k = true := by decide +kernel
theorem okF_zero (k : Nat) (r : Int) (h : pairU r = (0, 0, 0)) : okF (k + 1) r = true := by rw [okF, h]; rfl
theorem decF_zero (k : Nat) (r : Int) (h : pairU r = (0, 0, 0)) : decF k r = [r] := by cases k with
  | zero => rfl
  | succ k => rw [decF, h]; rfl
theorem syl_lv (s : Nat) (hs : s ≤ 11171) (ht : s % 28 = 0) (k : Nat) : okF (k + 2) (44032 + (s : Int)) = true ∧ decF (k + 1) (44032 + (s : Int)) = [4352 + ((s / 588 : Nat) : Int), 4449 + ((s % 588 / 28 : Nat) : Int)] := by
  have h := syl_pair s hs
  rw [if_pos ht] at h
  have z1 := jamo_zero (4352 + ((s / 588 : Nat) : Int)) (by omega)
  have z2 := jamo_zero (4449 + ((s % 588 / 28 : Nat) : Int)) (by omega)
  rw [okF, decF, h]
  simp only [okF_zero _ _ z1, okF_zero _ _ z2, decF_zero _ _ z1, decF_zero _ _ z2]
  exact ⟨rfl, rfl⟩
theorem syl_all (s : Nat) (hs : s ≤ 11171) (k : Nat) : okF (k + 3) (44032 + (s : Int)) = true ∧ decF (k + 2) (44032 + (s : Int)) = [4352 + ((s / 588 : Nat) : Int), 4449 + ((s % 588 / 28 : Nat) : Int)] ++ if s % 28 = 0 then [] else [4519 + ((s % 28 : Nat) : Int)] := by
  by_cases ht : s % 28 = 0
  · have := syl_lv s hs ht (k + 1)
    rw [if_pos ht, List.append_nil]
    exact this
  · have h := syl_pair s hs
    rw [if_neg ht] at h ⊢
    have h1 := syl_lv (s - s % 28) (by omega) (by omega) k
    have z2 := jamo_zero (4519 + ((s % 28 : Nat) : Int)) (by omega)
    rw [show 44032 + ((s - s % 28 : Nat) : Int) = 44032 + (s : Int) - ((s % 28 : Nat) : Int) by omega, show (s - s % 28) / 588 = s / 588 by omega, show (s - s % 28) % 588 / 28 = s % 588 / 28 by omega] at h1
    rw [okF, decF, h]
    simp only [h1.1, h1.2, okF_zero _ _ z2, decF_zero _ _ z2]
    exact ⟨rfl, rfl⟩
theorem okAll (r : Int) : okF 4 r = true := by
  rcases cases3 r with h | ⟨s, hs, rfl⟩ | h
  · exact (keys_pair r h).2.2.2
  · exact (syl_all s hs 1).1
  · exact okF_zero _ _ h
def decU (r : Int) : List Int := decF 4 r
theorem pair_range (r : Int) : (0 ≤ (pairU r).1 ∧ (pairU r).1 < 65536) ∧ (0 ≤ (pairU r).2.1 ∧ (pairU r).2.1 < 65536) ∧ (0 ≤ (pairU r).2.2 ∧ (pairU r).2.2 < 3) := by
  rcases cases3 r with h | ⟨s, hs, rfl⟩ | h
  · have := keys_pair r h
    exact ⟨this.1, this.2.1, this.2.2.1⟩
  · rw [syl_pair s hs]
    split <;> simp only <;> omega
  · rw [h]; simp
theorem decF_len : ∀ (k : Nat) (r : Int), (decF k r).length ≤ 2 ^ k
  | 0, _ => by simp [decF]
  | k + 1, r => by
    have h1 := decF_len k (pairU r).1
    have h2 := decF_len k (pairU r).2.1
    have h3 : 0 < 2 ^ k := Nat.two_pow_pos k
    rw [decF, Nat.pow_succ]
    split
    · simp; omega
    · split
      · omega
      · rw [List.length_append]; omega
abbrev K3 : Kd Int := Kd.int .i32
theorem info_3 : (Tryd.prog.info? 21).map (fun i => (i.zero, i.size, i.bytes)) = some (some (.int .i32 0), 1, 4) := by kernel_rfl
theorem K3_KM {w w' : World} {base : Nat} {ok : Nat → Prop} (x : Int) (cs : List Value) (h : K3.K w x cs) : K3.M w' base ok x cs := h
def NewR (w : World) (l : List Int) (e : Ending) (w' : World) : Prop := ∃ v, e = .returned v ∧ K3.R 21 w' w.heap.size (fun _ => True) v l ∧ Below w.heap.size w w'
theorem lit1 {w : World} {B : Nat} (hB : B ≤ w.heap.size) (a : Int) : K3.R 21 (w.alloc (.cells #[.int .i32 a] 21)) B (fun _ => True) (.slice (some ⟨w.heap.size, 0, none⟩) 1 1) [a] := by
  refine ⟨fun _ _ => trivial, [.int .i32 a], ?_, Reps.one (show Kd.M K3 _ _ _ a [.int .i32 a] from rfl) (Reps.none _ _)⟩
  have h2 := World.ownsRow_lit (base := B) (e := 21) (size := 1) w #[.int .i32 a] 1 hB (by decide) rfl
  exact h2
set_option maxRecDepth 100000 in
set_option maxHeartbeats 1000000 in
theorem DecF : ∀ (k : Nat) (_ : k ≤ 4) (w : World) (_ : G w) (r : Int) (_ : -2147483648 ≤ r ∧ r ≤ 2147483647) (_ : okF k r = true), Calls Tryd.prog 53 #[.int .i32 r] w (NewR w (decF k r)) := by
  intro k
  induction k with
  | zero => intro hk4 w hG r hr ho; exact absurd ho (by simp [okF])
  | succ k ih =>
    intro hk4 w hG r hr ho
    have HG := Aside0.mk hG
    have HO := Aside0.mk ho
    have HI := Aside0.mk (ih (by omega))
    have HR := Aside0.mk hr
    have HP := Aside0.mk (pair_range r)
    have HD := Aside0.mk (show decF (k + 1) r = if (pairU r).2.2 = 0 then [r] else if (pairU r).2.2 = 1 then decF k (pairU r).1 else decF k (pairU r).1 ++ decF k (pairU r).2.1 from rfl)
    have HO1 := Aside0.mk (show okF (k + 1) r = if (pairU r).2.2 = 0 then true else if (pairU r).2.2 = 1 then okF k (pairU r).1 else okF k (pairU r).1 && okF k (pairU r).2.1 from rfl)
    clear hG ho ih hr
    have hPP := PairP w HG.out r HR.out
    unfold PairPost at hPP
    obtain ⟨⟨a, b, n⟩, hp⟩ : ∃ p, p = pairU r := ⟨_, rfl⟩
    rw [← hp] at hPP HP HD HO1
    have HPP := Aside0.mk hPP
    clear hPP hp
    simp only at HPP HP HD HO1
    obtain ⟨HP⟩ := HP
    obtain ⟨⟨a0, a1⟩, ⟨b0, b1⟩, n0, n1⟩ := HP
    by_cases h0 : n = 0
    · subst h0
      rw [HD.out, if_pos rfl]
      clear HD HO1 HO
      go_enter Tryd.func53, Tryd.ntmps53
      go_wp2_with (first | (go_at_call 75; go_must (refine HPP.out.mono ?_; rintro e w1 ⟨rfl, p1⟩; have P1 := Aside0.mk p1; clear p1)))
      go_ret
      exact ⟨_, rfl, lit1 P1.out.size r, below_then P1.out P1.out.size (below_alloc (Below.refl _ _) _)⟩
    · by_cases h1 : n = 1
      · subst h1
        have e0 : ((1 : Int) == 0) = false := rfl
        rw [HD.out, if_neg (by decide), if_pos rfl]
        have HO2 := Aside0.mk (show okF k a = true by have h := HO1.out; rw [if_neg (by decide), if_pos rfl] at h; rw [← h]; exact HO.out)
        clear HD HO1 HO
        go_enter Tryd.func53, Tryd.ntmps53
        go_wp2_with (first | (go_at_call 75; go_must (refine HPP.out.mono ?_; rintro e w1 ⟨rfl, p1⟩; have P1 := Aside0.mk p1; clear p1)) | (go_at_call 53; go_must (refine (HI.out w1 (HG.out.below P1.out) a ⟨by omega, by omega⟩ HO2.out).mono ?_; rintro e w2 ⟨v2, rfl, r2, p2⟩; have R2 := Aside0.mk r2; have P2 := Aside0.mk p2; clear r2 p2)))
        go_ret
        exact ⟨_, rfl, Kd.R_lower R2.out P1.out.size, below_then P1.out P1.out.size P2.out⟩
      · have h2 : n = 2 := by omega
        subst h2
        rw [HD.out, if_neg (by decide), if_neg (by decide)]
        have HO2 := Aside0.mk (show okF k a = true ∧ okF k b = true by have h := HO1.out; rw [if_neg (by decide), if_neg (by decide)] at h; rw [← Bool.and_eq_true, ← h]; exact HO.out)
        clear HD HO1 HO
        have la := decF_len k a
        have lb := decF_len k b
        obtain ⟨x, hx⟩ : ∃ x, x = decF k a := ⟨_, rfl⟩
        obtain ⟨y, hy⟩ : ∃ y, y = decF k b := ⟨_, rfl⟩
        have HL := Aside0.mk (show x.length + y.length ≤ 1000 by rw [hx, hy]; have := Nat.pow_le_pow_right (n := 2) (by decide) (show k ≤ 4 by omega); omega)
        have HA := Aside0.mk (fun w2 h => HI.out w2 h a ⟨by omega, by omega⟩ HO2.out.1)
        have HB := Aside0.mk (fun w2 h => HI.out w2 h b ⟨by omega, by omega⟩ HO2.out.2)
        rw [← hx] at HA ⊢
        rw [← hy] at HB ⊢
        clear hx hy la lb
        go_enter Tryd.func53, Tryd.ntmps53
        go_wp2_with (first | (go_at_call 75; go_must (refine HPP.out.mono ?_; rintro e w1 ⟨rfl, p1⟩; have P1 := Aside0.mk p1; clear p1)) | (go_at_call 53; refine (HA.out w1 (HG.out.below P1.out)).mono ?_; rintro e w2 ⟨v2, rfl, r2, p2⟩; have R2 := Aside0.mk r2; have P2 := Aside0.mk (below_then P1.out P1.out.size p2); clear r2 p2 HA) | (go_at_call 53; go_must (refine (HB.out w2 (HG.out.below P2.out)).mono ?_; rintro e w3 ⟨v3, rfl, r3, p3⟩; obtain ⟨A3, c3, rfl, hc3, hC3⟩ := Kd.R_reads r3; have C3 := Aside0.mk hC3; have R3 := Aside0.mk (Kd.R_below (Kd.R_lower R2.out P1.out.size) p3); have P3 := Aside0.mk (below_then P2.out P2.out.size p3); clear r3 p3 hC3)) | (at_builtin; go_must (refine Kd.R_append_rows K3 (Rr := K3.K w3) (w0 := w) w.heap.size rfl (.tmp 22) (.tmp 24) 22 21 (.int .i32 0) 4 rfl Tryd.underlying22 info_3 rfl (by decide) (by decide) v2 x y A3 _ c3 (fun _ => True) (fun _ => False) rfl rfl R3.out C3.out (fun x cs h => K3_KM x cs h) (fun _ h => h.elim) (fun _ _ => trivial) P3.out P3.out.size ?hl ?hh)))
        case hl => have := HL.out; omega
        case hh =>
          intro v1 w4 hR hb4 hg4 hat4
          have R4 := Aside0.mk hR
          have P4 := Aside0.mk hb4
          clear hR hb4 hg4 hat4
          go_wp2
          go_ret
          exact ⟨_, rfl, R4.out, P4.out⟩
theorem DecP (w : World) (hG : G w) (r : Int) (hr : -2147483648 ≤ r ∧ r ≤ 2147483647) : Calls Tryd.prog 53 #[.int .i32 r] w (NewR w (decU r)) := DecF 4 (by decide) w hG r hr (okAll r)
end Go.Proofs.YtiggjbclbdikmaaDoor.Vd
namespace Go.Proofs.YtiggjbclbdikmaaDoor.X
open Go.RowKit Go.Proofs.YtiggjbclbdikmaaDoorW.PrintWords
def ucd_Decompose.f (a0 : Int) : Option (List Int) := if -2147483648 ≤ a0 ∧ a0 ≤ 2147483647 then some (Vd.decU a0) else none
theorem ucd_Decompose.calls (a0 : Int) (r : List Int) (w : World) (h : ucd_Decompose.f a0 = some r) (hG0 : Va.G w) : Calls Tryd.prog 53 #[.int .i32 a0] w fun e w' => ∃ v0_ : Value, e = .returned (v0_) ∧ Kd.R (Kd.int .i32) 21 w' w.heap.size (fun _ => True) v0_ r ∧ Below w.heap.size w w' := by
  unfold ucd_Decompose.f at h
  split at h
  · rename_i hr
    obtain rfl := Option.some.inj h
    exact Vd.DecP w hG0 a0 hr
  · cases h
end Go.Proofs.YtiggjbclbdikmaaDoor.X
namespace Go.Proofs.YtiggjbclbdikmaaDoor.Fr
set_option linter.unusedVariables false
set_option linter.unusedSimpArgs false
open Go.RowKit Go.Proofs.YtiggjbclbdikmaaDoorW.PrintWords Go.Proofs.YtiggjbclbdikmaaDoorW.PrintLast Go.Proofs.YtiggjbclbdikmaaDoorW.PrintMore Go.Proofs.YtiggjbclbdikmaaDoor.Hp Go.Proofs.YtiggjbclbdikmaaDoor.Va Go.Proofs.YtiggjbclbdikmaaDoor.Vd Go.Proofs.YtiggjbclbdikmaaDoor.Na Go.Proofs.YtiggjbclbdikmaaDoor.Nb Go.Proofs.YtiggjbclbdikmaaDoor.Nc Go.Proofs.YtiggjbclbdikmaaDoor.Ns Go.Proofs.YtiggjbclbdikmaaDoor.Ng Go.Proofs.YtiggjbclbdikmaaDoor.X
abbrev TF : Nat := 79
abbrev T3 : Nat := 21
abbrev K3 : Kd Int := Kd.int .i32
def sure (l : List Int) : Nat := (l.reverse.dropWhile (fun x => cls x != 0)).length
theorem sure_of {l : List Int} {N : Nat} (hN : N ≤ l.length) (h : ∀ x ∈ l.drop N, cls x ≠ 0) (hz : N = 0 ∨ ∃ P z, l.take N = P ++ [z] ∧ cls z = 0) : sure l = N := by
  unfold sure
  have h1 : l.reverse = (l.drop N).reverse ++ (l.take N).reverse := by rw [← List.reverse_append, List.take_append_drop]
  rw [h1, List.dropWhile_append_of_pos (fun x hx => by simpa using h x (by simpa using hx))]
  rcases hz with rfl | ⟨P, z, h2, hz⟩
  · simp
  · have h3 : (l.take N).reverse = z :: P.reverse := by rw [h2]; simp
    rw [h3, List.dropWhile_cons_of_neg (by simp [hz]), ← h3, List.length_reverse, List.length_take]
    omega
theorem sure_spec (l : List Int) : sure l ≤ l.length ∧ (∀ x ∈ l.drop (sure l), cls x ≠ 0) ∧ (sure l = 0 ∨ ∃ P z, l.take (sure l) = P ++ [z] ∧ cls z = 0) := by
  obtain ⟨N, h1, h2, h3⟩ : ∃ N, N ≤ l.length ∧ (∀ x ∈ l.drop N, cls x ≠ 0) ∧ (N = 0 ∨ ∃ P z, l.take N = P ++ [z] ∧ cls z = 0) := by
    suffices h : ∀ n, n ≤ l.length → (∀ x ∈ l.drop n, cls x ≠ 0) → ∃ N, N ≤ l.length ∧ (∀ x ∈ l.drop N, cls x ≠ 0) ∧ (N = 0 ∨ ∃ P z, l.take N = P ++ [z] ∧ cls z = 0) from h l.length (Nat.le_refl _) (by simp)
    intro n
    induction n with
    | zero => exact fun h1 h2 => ⟨0, h1, h2, .inl rfl⟩
    | succ n ih =>
      intro h1 h2
      obtain ⟨y, -, h4, h5, -⟩ := split_at (S := l) (t := n) (by omega)
      by_cases hy : cls y = 0
      · exact ⟨n + 1, h1, h2, .inr ⟨_, y, h5, hy⟩⟩
      · refine ih (by omega) fun x hx => ?_
        rw [h4] at hx
        rcases List.mem_cons.1 hx with rfl | hx
        · exact hy
        · exact h2 x hx
  rw [sure_of h1 h2 h3]
  exact ⟨h1, h2, h3⟩
def Row (w : World) (A : Option Addr) (c : Nat) (l : List Int) : Prop := (A = none ∧ l = [] ∧ c = 0) ∨ ∃ g post, A = some ⟨g, 0, none⟩ ∧ Reg w g [] post l ∧ l.length ≤ c ∧ c ≤ maxLen
theorem Row.C {w : World} {A : Option Addr} {c : Nat} {l : List Int} (h : Row w A c l) (hm : l.length ≤ 9223372036854775807) : K3.C w A l.length l := by
  refine rdC ⟨rfl, hm, fun hp => ?_⟩
  rcases h with ⟨_, rfl, _⟩ | ⟨g, post, rfl, hR, _, _⟩
  · simp at hp
  · refine ⟨_, rfl, fun j hj => ?_⟩
    have := hR.at_ j hj
    rw [add_plain]
    simpa using this
theorem OrdC (w : World) (hG : G w) (A : Option Addr) (c : Nat) (l : List Int) (h : Row w A c l) (h3 : ∀ ad, A = some ad → 3 ≤ ad.block) (n : Nat) (hn : n = l.length) (hn5 : n ≤ 1000000000000000) :
    Calls Tryd.prog 54 #[.slice A n c] w fun e w' => e = .returned (.slice A n c) ∧ Chg (fun b => ∃ ad, A = some ad ∧ b = ad.block) w w' ∧ Row w' A c (ordL l) := by
  rcases h with ⟨rfl, rfl, rfl⟩ | ⟨g, post, rfl, hR, hc, hm⟩
  · subst hn
    exact (OrdN w).mono fun e w' ⟨h1, h2⟩ => ⟨h1, h2.mono (fun _ _ h => h.elim), .inl ⟨rfl, rfl, rfl⟩⟩
  · refine (OrdP w hG g (h3 _ rfl) post l hR n c hn hn5 (by omega)).mono fun e w' ⟨h1, h2, h3⟩ => ⟨h1, h2.mono (fun k _ hk => ⟨_, rfl, hk⟩), .inr ⟨g, post, rfl, h3, ?_, hm⟩⟩
    rw [ordL_len]
    exact hc
def IsForm (g base : Nat) (kept : List Int) (closed : Bool) (ok : Nat → Prop) (w : World) : Prop :=
  ∃ kv, w.heap[g]? = some (.cells #[kv, .bool closed] TF (0, 0)) ∧ base ≤ g ∧ ok g ∧ K3.R T3 w base (fun b => ok b ∧ b ≠ g) kv kept
section
variable {g base : Nat} {kept : List Int} {closed : Bool} {ok ok' : Nat → Prop} {w w1 : World}
theorem IsForm.mono (h : IsForm g base kept closed ok w) (hok : ∀ k, ok k → ok' k) : IsForm g base kept closed ok' w := by
  obtain ⟨kv, h1, h2, h3, h4⟩ := h
  exact ⟨kv, h1, h2, hok _ h3, Kd.R_mono h4 (fun b hb => ⟨hok _ hb.1, hb.2⟩)⟩
theorem IsForm.step (h : IsForm g base kept closed ok w) (hm : ∀ k, ok k → k < w.heap.size → w1.heap[k]? = w.heap[k]?) : IsForm g base kept closed ok w1 := by
  obtain ⟨kv, h1, h2, h3, h4⟩ := h
  exact ⟨kv, (hm g h3 (blk_lt h1)).trans h1, h2, h3, Kd.R_step h4 (fun b hb hlt => hm b hb.1 hlt)⟩
theorem IsForm.below (h : IsForm g base kept closed ok w) (hb : Below w.heap.size w w1) : IsForm g base kept closed ok w1 := h.step (fun k _ hlt => hb.block k hlt)
theorem IsForm.chg {S : Nat → Prop} (h : IsForm g base kept closed ok w) (hc : Chg S w w1) (hd : ∀ k, ok k → ¬ S k) : IsForm g base kept closed ok w1 :=
  h.step (fun k hk hlt => hc.keep k hlt (hd k hk))
theorem IsForm.lt (h : IsForm g base kept closed ok w) : g < w.heap.size ∧ base ≤ g ∧ ok g := by
  obtain ⟨kv, h1, h2, h3, _⟩ := h
  exact ⟨blk_lt h1, h2, h3⟩
end
theorem NewF (w : World) : Calls Tryd.prog 30 #[] w fun e w' => ∃ g, e = .returned (.pointer (some ⟨g, 0, none⟩)) ∧ w.heap.size ≤ g ∧ IsForm g w.heap.size [] false (fun b => b = g) w' ∧ Below w.heap.size w w' := by
  have hfin : ∃ g, (.returned (.pointer (some ⟨w.heap.size, 0, none⟩)) : Ending) = .returned (.pointer (some ⟨g, 0, none⟩)) ∧ w.heap.size ≤ g ∧ IsForm g w.heap.size [] false (fun b => b = g) (w.alloc (.cells #[.slice none 0 0, .bool false] TF)) ∧ Below w.heap.size w (w.alloc (.cells #[.slice none 0 0, .bool false] TF)) :=
    ⟨w.heap.size, rfl, Nat.le_refl _, ⟨.slice none 0 0, heap_alloc_new w _, Nat.le_refl _, rfl, Kd.R_nil _ _ _ _ _⟩, below_alloc (Below.refl _ _) _⟩
  go_enter Tryd.func30, Tryd.ntmps30
  go_wp2
  go_ret
  exact hfin
theorem CloseClosed (w : World) (g base : Nat) (kept : List Int) (ok : Nat → Prop) (h : IsForm g base kept true ok w) :
    Calls Tryd.prog 34 #[.pointer (some ⟨g, 0, none⟩)] w fun e w' => e = .returned (.slice none 0 0) ∧ w = w' := by
  obtain ⟨kv, h1, h2, h3, h4⟩ := h
  have c1 : w.cell? ⟨g, 1, none⟩ = some (.bool true) := by simp [World.cell?, h1]
  clear h1 h2 h3 h4
  go_enter Tryd.func34, Tryd.ntmps34
  go_wp2
  go_ret
  exact ⟨rfl, rfl⟩
theorem WriteClosed (w : World) (g base : Nat) (kept : List Int) (ok : Nat → Prop) (A : Option Addr) (n c : Nat) (h : IsForm g base kept true ok w) :
    Calls Tryd.prog 31 #[.pointer (some ⟨g, 0, none⟩), .slice A n c] w fun e w' => e = .returned (.slice none 0 0) ∧ w = w' := by
  obtain ⟨kv, h1, h2, h3, h4⟩ := h
  have c1 : w.cell? ⟨g, 1, none⟩ = some (.bool true) := by simp [World.cell?, h1]
  clear h1 h2 h3 h4
  go_enter Tryd.func31, Tryd.ntmps31
  go_wp2
  go_ret
  exact ⟨rfl, rfl⟩
theorem PendF (w : World) (g base : Nat) (kept : List Int) (closed : Bool) (ok : Nat → Prop) (h : IsForm g base kept closed ok w) :
    Calls Tryd.prog 33 #[.pointer (some ⟨g, 0, none⟩)] w fun e w' => e = .returned (.int .i64 (kept.length : Int)) ∧ w = w' := by
  obtain ⟨kv, h1, h2, h3, h4⟩ := h
  obtain ⟨A0, c0, rfl⟩ := Kd.R_slice h4
  have c1 : w.cell? ⟨g, 0, none⟩ = some (.slice A0 kept.length c0) := by simp [World.cell?, h1]
  clear h1 h2 h3 h4
  go_enter Tryd.func33, Tryd.ntmps33
  go_wp2
  go_ret
  exact ⟨rfl, rfl⟩
theorem Row.of {w : World} {base : Nat} {ok : Nat → Prop} {v : Value} {xs : List Int} (h : K3.R T3 w base ok v xs) : ∃ A c, v = .slice A xs.length c ∧ xs.length ≤ c ∧ Row w A c xs ∧ ∀ ad, A = some ad → base ≤ ad.block ∧ ok ad.block := by
  rcases Reg.of_row (n := 0) (c := 0) h with ⟨rfl, n, rfl, rfl⟩ | ⟨g, cap, post, rfl, h1, h2, h3, h4, h5⟩
  · exact ⟨none, 0, rfl, Nat.zero_le _, .inl ⟨rfl, rfl, rfl⟩, fun _ h => by cases h⟩
  · exact ⟨_, _, rfl, h1, .inr ⟨g, post, rfl, h5, h1, h2⟩, fun ad had => by cases had; exact ⟨h4, h.1 g rfl⟩⟩
theorem Row.chg {S : Nat → Prop} {w w' : World} {A : Option Addr} {c : Nat} {l : List Int} (h : Row w A c l) (hc : Chg S w w') (hS : ∀ ad, A = some ad → ¬ S ad.block) : Row w' A c l := by
  rcases h with h | ⟨g, post, rfl, hR, h1, h2⟩
  · exact .inl h
  · exact .inr ⟨g, post, rfl, hR.chg hc (hS _ rfl), h1, h2⟩
def ClosePost (w : World) (g base : Nat) (kept : List Int) (ok : Nat → Prop) (e : Ending) (w' : World) : Prop :=
  ∃ A c, e = .returned (.slice A kept.length c) ∧ kept.length ≤ c ∧ Row w' A c (ordL kept) ∧ (∀ ad, A = some ad → base ≤ ad.block ∧ ok ad.block ∧ ad.block ≠ g) ∧ IsForm g base [] true (fun b => b = g) w' ∧ Chg ok w w'
set_option maxHeartbeats 2000000 in
theorem Close (w : World) (hG : G w) (g base : Nat) (kept : List Int) (ok : Nat → Prop) (h : IsForm g base kept false ok w) (hb3 : 3 ≤ base) (hk : kept.length ≤ 1000000000000000) :
    Calls Tryd.prog 34 #[.pointer (some ⟨g, 0, none⟩)] w (ClosePost w g base kept ok) := by
  obtain ⟨kv, h1, h2, h3, h4⟩ := h
  obtain ⟨A, c, rfl, hc, hrow, hA⟩ := Row.of h4
  have c0 : w.cell? ⟨g, 0, none⟩ = some (.slice A kept.length c) := by simp [World.cell?, h1]
  have c1 : w.cell? ⟨g, 1, none⟩ = some (.bool false) := by simp [World.cell?, h1]
  have f1 : w.frozen? ⟨g, 1, none⟩ = false := by simp [World.frozen?, h1]
  have hb1 := blk_set h1 1 (.bool true)
  have c0' : (w.setCell ⟨g, 1, none⟩ (.bool true)).cell? ⟨g, 0, none⟩ = some (.slice A kept.length c) := by simp [World.cell?, hb1]
  have ch1 : Chg (fun b => b = g) w (w.setCell ⟨g, 1, none⟩ (.bool true)) := (Chg.refl (fun b => b = g) w).setCell (p := ⟨g, 1, none⟩) (.inl rfl) _
  have hcall := OrdC (w.setCell ⟨g, 1, none⟩ (.bool true)) (G_chg hG ch1 (fun k hk e => by omega)) A c kept (hrow.chg ch1 (fun ad e h => (hA ad e).2.2 h)) (fun ad e => Nat.le_trans hb3 (hA ad e).1) kept.length rfl hk
  obtain ⟨L, hL⟩ : ∃ L, L = kept.length := ⟨_, rfl⟩
  rw [← hL] at c0' hcall
  have HCall := Aside0.mk hcall
  have HB1 := Aside0.mk hb1
  have HC1 := Aside0.mk ch1
  have HA := Aside0.mk hA
  have HL := Aside0.mk hL
  have H23 := Aside0.mk (And.intro h2 (And.intro h3 hc))
  clear hG h1 h2 h3 h4 hc hrow hA c0 hb1 ch1 hcall hL hb3 hk
  go_enter Tryd.func34, Tryd.ntmps34
  go_upto_region 5 with (first | (go_at_call 54; go_must (refine HCall.out.mono ?_; rintro e w2 ⟨rfl, p1, p2⟩; have C2 := Aside0.mk p1; have R2 := Aside0.mk p2; clear p1 p2)))
  have hb2 : w2.heap[g]? = some (.cells #[.slice A L c, .bool true] TF (0, 0)) := by
    have h := C2.out.heap HB1.out (fun ⟨ad, e, h⟩ => (HA.out ad e).2.2 h.symm)
    rw [← HL.out] at h
    simpa using h
  have c2 : w2.cell? ⟨g, 0, none⟩ = some (.slice A L c) := by simp [World.cell?, hb2]
  have f2 : w2.frozen? ⟨g, 0, none⟩ = false := by simp [World.frozen?, hb2]
  have HB2 := Aside0.mk hb2
  clear hb2 c0' c1 f1
  go_wp2
  go_ret
  have ch3 : Chg (fun b => b = g) w2 (w2.setCell ⟨g, 0, none⟩ (.slice none 0 0)) := (Chg.refl (fun b => b = g) w2).setCell (p := ⟨g, 0, none⟩) (.inl rfl) _
  have e := HL.out
  subst e
  refine ⟨A, c, rfl, H23.out.2.2, R2.out.chg ch3 (fun ad e h => (HA.out ad e).2.2 h), fun ad e => ⟨(HA.out ad e).1, (HA.out ad e).2.1, (HA.out ad e).2.2⟩, ⟨_, by simpa using blk_set HB2.out 0 (.slice none 0 0), H23.out.1, rfl, Kd.R_nil _ _ _ _ _⟩, ?_⟩
  refine ((HC1.out.mono (S' := ok) fun k _ hk => ?_).trans C2.out fun k _ hk => ?_).trans ch3 fun k _ hk => ?_
  · rw [hk]; exact H23.out.2.1
  · obtain ⟨ad, e, rfl⟩ := hk; exact (HA.out ad e).2.1
  · rw [hk]; exact H23.out.2.1
end Go.Proofs.YtiggjbclbdikmaaDoor.Fr
namespace Go.Proofs.YtiggjbclbdikmaaDoor.X
open Go.RowKit Go.Proofs.YtiggjbclbdikmaaDoorW.PrintWords Go.Proofs.YtiggjbclbdikmaaDoorW.PrintLast Go.Proofs.YtiggjbclbdikmaaDoorW.PrintMore
attribute [local go_sem] max2_int min2_int max_two min_two max_three min_three max_four min_four   
set_option linter.unusedVariables false
set_option linter.unusedSimpArgs false
def tremaref01_SameRunes.l0 : Nat → List Int → List Int → Int → Option (Bool)
 | 0, _, _, _ => none
 | k + 1, x0, x1, x5 => if x5 < (x0.length : Int) then (if 0 ≤ x5 then (if x5 < (x1.length : Int) then (if (rd x0 x5) = (rd x1 x5) then (tremaref01_SameRunes.l0 k x0 x1 (wrap64 (x5 + 1))) else (some false)) else (none)) else (none)) else (some true)
def tremaref01_SameRunes.f (k : Nat) (l0 : List Int) (l1 : List Int) : Option (Bool) := if (l0.length : Int) = (l1.length : Int) then (tremaref01_SameRunes.l0 k l0 l1 0) else (some false)
theorem tremaref01_SameRunes.mono_l : ∀ k, (∀ y0 y1 y2, LeO (tremaref01_SameRunes.l0 k y0 y1 y2) (tremaref01_SameRunes.l0 (k + 1) y0 y1 y2))
 | 0 => fun _ _ _ r h => by simp [tremaref01_SameRunes.l0] at h
 | k + 1 => by
  have ih0 := tremaref01_SameRunes.mono_l k
  ·intro y0 y1 y2
   unfold tremaref01_SameRunes.l0
   repeat' first
   | (with_reducible exact ih0 _ _ _)
   | (with_reducible exact LeO.refl _)
   | (with_reducible exact LeO.none _)
   | (with_reducible refine LeO.ite ?_ ?_)
   | (with_reducible refine LeO.bind ?_ (fun _ => ?_))
   | exact ih0 _ _ _
   | exact LeO.none _
   | refine LeO.ite ?_ ?_
   | refine LeO.bind ?_ (fun _ => ?_)
theorem tremaref01_SameRunes.mono : ∀ a0 a1 k, LeO (tremaref01_SameRunes.f k a0 a1) (tremaref01_SameRunes.f (k + 1) a0 a1) := by
 intro a0 a1 k
 have ih0 := tremaref01_SameRunes.mono_l k
 unfold tremaref01_SameRunes.f
 repeat' first
   | (with_reducible exact ih0 _ _ _)
   | (with_reducible exact LeO.refl _)
   | (with_reducible exact LeO.none _)
   | (with_reducible refine LeO.ite ?_ ?_)
   | (with_reducible refine LeO.bind ?_ (fun _ => ?_))
   | exact ih0 _ _ _
   | exact LeO.none _
   | refine LeO.ite ?_ ?_
   | refine LeO.bind ?_ (fun _ => ?_)
set_option maxHeartbeats 8000000 in
set_option maxRecDepth 100000 in
theorem tremaref01_SameRunes.calls (k : Nat) (A0 : Option Addr) (c0 : Nat) (l0 : List Int) (A1 : Option Addr) (c1 : Nat) (l1 : List Int) (r : Bool) (w : World) (hr0 : Kd.C (Kd.int .i32) w A0 l0.length l0) (hc0 : l0.length ≤ c0) (hr1 : Kd.C (Kd.int .i32) w A1 l1.length l1) (hc1 : l1.length ≤ c1) (h : tremaref01_SameRunes.f k l0 l1 = some r) :
  Calls Tryd.prog 21 #[.slice A0 l0.length c0, .slice A1 l1.length c1] w fun e w' => e = .returned (.bool r) ∧ Drawn0 w w' := by
 have HR0 := Aside0.mk hr0
 have HC0 := Aside0.mk hc0
 clear hr0 hc0
 have HR1 := Aside0.mk hr1
 have HC1 := Aside0.mk hc1
 clear hr1 hc1
 have H : (if (l0.length : Int) = (l1.length : Int) then (tremaref01_SameRunes.l0 k l0 l1 0) else (some false)) = some r := h
 clear h
 by_cases c3 : (l0.length : Int) = (l1.length : Int)
 ·rw [if_pos c3] at H
  have c3b0 : ((l0.length : Int) == (l1.length : Int)) = true := beq_iff_eq.mpr c3
  have c3b1 : ((l0.length : Int) != (l1.length : Int)) = false := bne_eq_false_iff_eq.mpr c3
  have c3b2 : (l0.length == l1.length) = true := by first | simpa using c3 | (simp at c3 ⊢; omega)
  clear c3
  have H' := Aside0.mk H
  clear H
  go_enter Tryd.func21, Tryd.ntmps21
  go_wp2
  repeat (go_quiet (fail); try go_wp2)
  go_loopg [5] k (fun kq v5 w' => ∃ (x5_1 : Int), v5 = .int .i64 x5_1 ∧ Aside0 (tremaref01_SameRunes.l0 kq l0 l1 x5_1 = some r) ∧ Aside0 (kq ≤ k) ∧ Drawn0 w w')
  case atStart => exact ⟨(0), (by first | rfl | (simp; done) | (simp [*]; done)), H', ⟨Nat.le_refl _⟩, by repeat (first | exact Drawn0.refl _ | apply Drawn0.step)⟩
  case round =>
   clear H'
   try clear c1
   try clear c2
   try clear p2
   try clear c3
   try clear c3b0
   try clear c3b1
   try clear c3b2
   obtain ⟨x5_1, rfl, HA, HK1, ⟨m1, rfl⟩⟩ := hrel
   cases gk with
   | zero => exact absurd HA.out (by simp [tremaref01_SameRunes.l0])
   | succ k1 =>
    have H := HA.out
    clear HA
    simp only [tremaref01_SameRunes.l0] at H
    by_cases c4 : x5_1 < (l0.length : Int)
    ·rw [if_pos c4] at H
     have c4b0 : decide (x5_1 < (l0.length : Int)) = true := decide_eq_true c4
     clear c4
     by_cases c5 : 0 ≤ x5_1
     ·rw [if_pos c5] at H
      have c5b0 : decide (0 ≤ x5_1) = true := decide_eq_true c5
      clear c5
      by_cases c6 : x5_1 < (l1.length : Int)
      ·rw [if_pos c6] at H
       have c6b0 : decide (x5_1 < (l1.length : Int)) = true := decide_eq_true c6
       clear c6
       by_cases c7 : (rd l0 x5_1) = (rd l1 x5_1)
       ·rw [if_pos c7] at H
        have c7b0 : ((rd l0 x5_1) == (rd l1 x5_1)) = true := beq_iff_eq.mpr c7
        have c7b1 : ((rd l0 x5_1) != (rd l1 x5_1)) = false := bne_eq_false_iff_eq.mpr c7
        clear c7
        have H' := Aside0.mk H
        clear H
        have p162 : 0 ≤ (x5_1 : Int) := of_decide_eq_true (by first | (with_reducible assumption) | assumption)
        have q162 : x5_1 < (l0.length : Int) := of_decide_eq_true (by first | (with_reducible assumption) | assumption)
        obtain ⟨ad162, e162, hx162_0⟩ := Kd.at_int HR0.out x5_1 p162 q162
        cases e162
        replace p162 := eq_true p162
        replace q162 := eq_true q162
        have p163 : 0 ≤ (x5_1 : Int) := of_decide_eq_true (by first | (with_reducible assumption) | assumption)
        have q163 : x5_1 < (l1.length : Int) := of_decide_eq_true (by first | (with_reducible assumption) | assumption)
        obtain ⟨ad163, e163, hx163_0⟩ := Kd.at_int HR1.out x5_1 p163 q163
        cases e163
        replace p163 := eq_true p163
        replace q163 := eq_true q163
        go_wp2
        repeat (go_quiet (fail); try go_wp2)
        go_roundg k1
        case measure => have := HK1.out; omega
        case rel => exact ⟨(wrap64 (x5_1 + 1)), (by first | rfl | (simp; done) | (simp [*]; done)), H', ⟨by have := HK1.out; omega⟩, by repeat (first | exact Drawn0.refl _ | apply Drawn0.step)⟩
       ·rw [if_neg c7] at H
        have c7b0 : ((rd l0 x5_1) == (rd l1 x5_1)) = false := beq_eq_false_iff_ne.mpr c7
        have c7b1 : ((rd l0 x5_1) != (rd l1 x5_1)) = true := bne_iff_ne.mpr c7
        obtain rfl := Option.some.inj H
        have p162 : 0 ≤ (x5_1 : Int) := of_decide_eq_true (by first | (with_reducible assumption) | assumption)
        have q162 : x5_1 < (l0.length : Int) := of_decide_eq_true (by first | (with_reducible assumption) | assumption)
        obtain ⟨ad162, e162, hx162_0⟩ := Kd.at_int HR0.out x5_1 p162 q162
        cases e162
        replace p162 := eq_true p162
        replace q162 := eq_true q162
        have p163 : 0 ≤ (x5_1 : Int) := of_decide_eq_true (by first | (with_reducible assumption) | assumption)
        have q163 : x5_1 < (l1.length : Int) := of_decide_eq_true (by first | (with_reducible assumption) | assumption)
        obtain ⟨ad163, e163, hx163_0⟩ := Kd.at_int HR1.out x5_1 p163 q163
        cases e163
        replace p163 := eq_true p163
        replace q163 := eq_true q163
        go_wp2
        repeat (go_quiet (fail); try go_wp2)
        go_ret
        exact ⟨by first | rfl | (simp; done) | (simp [*]; done), by repeat (first | exact Drawn0.refl _ | apply Drawn0.step)⟩
      ·rw [if_neg c6] at H
       exact absurd H (by simp)
     ·rw [if_neg c5] at H
      exact absurd H (by simp)
    ·rw [if_neg c4] at H
     have c4b0 : decide (x5_1 < (l0.length : Int)) = false := decide_eq_false c4
     clear c4
     obtain rfl := Option.some.inj H
     go_wp2
     repeat (go_quiet (fail); try go_wp2)
     go_ret
     exact ⟨by first | rfl | (simp; done) | (simp [*]; done), by repeat (first | exact Drawn0.refl _ | apply Drawn0.step)⟩
 ·rw [if_neg c3] at H
  have c3b0 : ((l0.length : Int) == (l1.length : Int)) = false := beq_eq_false_iff_ne.mpr c3
  have c3b1 : ((l0.length : Int) != (l1.length : Int)) = true := bne_iff_ne.mpr c3
  have c3b2 : (l0.length == l1.length) = false := by first | simpa using c3 | (simp at c3 ⊢; omega)
  obtain rfl := Option.some.inj H
  go_enter Tryd.func21, Tryd.ntmps21
  go_wp2
  repeat (go_quiet (fail); try go_wp2)
  go_ret
  exact ⟨by first | rfl | (simp; done) | (simp [*]; done), by repeat (first | exact Drawn0.refl _ | apply Drawn0.step)⟩
end Go.Proofs.YtiggjbclbdikmaaDoor.X
namespace Go.Proofs.YtiggjbclbdikmaaDoor.X
open Go.RowKit Go.Proofs.YtiggjbclbdikmaaDoorW.PrintWords Go.Proofs.YtiggjbclbdikmaaDoorW.PrintLast Go.Proofs.YtiggjbclbdikmaaDoorW.PrintMore
attribute [local go_sem] max2_int min2_int max_two min_two max_three min_three max_four min_four   
set_option linter.unusedVariables false
set_option linter.unusedSimpArgs false
def ucd_Trailing.f (a0 : Int) : Option (Bool) := if a0 ≥ 4449 then (if a0 ≤ 4469 then (some true) else (if a0 ≥ 4520 then (some (decide (a0 ≤ 4546))) else (some false))) else (if a0 ≥ 4520 then (some (decide (a0 ≤ 4546))) else (some false))
set_option maxHeartbeats 8000000 in
set_option maxRecDepth 100000 in
theorem ucd_Trailing.calls (a0 : Int) (r : Bool) (w : World) (h : ucd_Trailing.f a0 = some r) :
  Calls Tryd.prog 94 #[.int .i32 a0] w fun e w' => e = .returned (.bool r) ∧ Drawn0 w w' := by
 have H : (if a0 ≥ 4449 then (if a0 ≤ 4469 then (some true) else (if a0 ≥ 4520 then (some (decide (a0 ≤ 4546))) else (some false))) else (if a0 ≥ 4520 then (some (decide (a0 ≤ 4546))) else (some false))) = some r := h
 clear h
 by_cases c2 : a0 ≥ 4449
 ·rw [if_pos c2] at H
  have c2b0 : decide (4449 ≤ a0) = true := decide_eq_true c2
  clear c2
  by_cases c3 : a0 ≤ 4469
  ·rw [if_pos c3] at H
   have c3b0 : decide (a0 ≤ 4469) = true := decide_eq_true c3
   clear c3
   obtain rfl := Option.some.inj H
   go_enter Tryd.func94, Tryd.ntmps94
   go_wp2
   go_ret
   exact ⟨by first | rfl | (simp; done) | (simp [*]; done), by repeat (first | exact Drawn0.refl _ | apply Drawn0.step)⟩
  ·rw [if_neg c3] at H
   have c3b0 : decide (a0 ≤ 4469) = false := decide_eq_false c3
   clear c3
   by_cases c4 : a0 ≥ 4520
   ·rw [if_pos c4] at H
    have c4b0 : decide (4520 ≤ a0) = true := decide_eq_true c4
    clear c4
    obtain rfl := Option.some.inj H
    go_enter Tryd.func94, Tryd.ntmps94
    go_wp2
    go_ret
    exact ⟨by first | rfl | (simp; done) | (simp [*]; done), by repeat (first | exact Drawn0.refl _ | apply Drawn0.step)⟩
   ·rw [if_neg c4] at H
    have c4b0 : decide (4520 ≤ a0) = false := decide_eq_false c4
    clear c4
    obtain rfl := Option.some.inj H
    go_enter Tryd.func94, Tryd.ntmps94
    go_wp2
    go_ret
    exact ⟨by first | rfl | (simp; done) | (simp [*]; done), by repeat (first | exact Drawn0.refl _ | apply Drawn0.step)⟩
 ·rw [if_neg c2] at H
  have c2b0 : decide (4449 ≤ a0) = false := decide_eq_false c2
  clear c2
  by_cases c5 : a0 ≥ 4520
  ·rw [if_pos c5] at H
   have c5b0 : decide (4520 ≤ a0) = true := decide_eq_true c5
   clear c5
   obtain rfl := Option.some.inj H
   go_enter Tryd.func94, Tryd.ntmps94
   go_wp2
   go_ret
   exact ⟨by first | rfl | (simp; done) | (simp [*]; done), by repeat (first | exact Drawn0.refl _ | apply Drawn0.step)⟩
  ·rw [if_neg c5] at H
   have c5b0 : decide (4520 ≤ a0) = false := decide_eq_false c5
   clear c5
   obtain rfl := Option.some.inj H
   go_enter Tryd.func94, Tryd.ntmps94
   go_wp2
   go_ret
   exact ⟨by first | rfl | (simp; done) | (simp [*]; done), by repeat (first | exact Drawn0.refl _ | apply Drawn0.step)⟩
end Go.Proofs.YtiggjbclbdikmaaDoor.X
namespace Go.Proofs.YtiggjbclbdikmaaDoor.Ve
set_option linter.unusedVariables false
set_option linter.unusedSimpArgs false
open Go.RowKit Go.Proofs.YtiggjbclbdikmaaDoorW.PrintWords Go.Proofs.YtiggjbclbdikmaaDoor.Hp Go.Proofs.YtiggjbclbdikmaaDoor.Va Go.Proofs.YtiggjbclbdikmaaDoor.Vc Go.Proofs.YtiggjbclbdikmaaDoor.Vd Go.Proofs.YtiggjbclbdikmaaDoor.X
def trl (r : Int) : Bool := decide (4449 ≤ r ∧ r ≤ 4469 ∨ 4520 ≤ r ∧ r ≤ 4546)
theorem trl_pure (r : Int) : ucd_Trailing.f r = some (trl r) := by
  unfold ucd_Trailing.f trl
  split
  · split
    · congr 1; symm; rw [decide_eq_true_eq]; omega
    · split
      · congr 1; rw [decide_eq_decide]; omega
      · congr 1; symm; rw [decide_eq_false_iff_not]; omega
  · split
    · congr 1; rw [decide_eq_decide]; omega
    · congr 1; symm; rw [decide_eq_false_iff_not]; omega
theorem TrailP (w : World) (r : Int) : Calls Tryd.prog 94 #[.int .i32 r] w fun e w' => e = .returned (.bool (trl r)) ∧ Below w.heap.size w w' :=
  (ucd_Trailing.calls r (trl r) w (trl_pure r)).mono fun _ _ h => ⟨h.1, h.2.below⟩
theorem decF_ne : ∀ (k : Nat) (r : Int), decF k r ≠ []
  | 0, _ => by simp [decF]
  | k + 1, r => by
    have := decF_ne k (pairU r).1
    rw [decF]
    split
    · simp
    · split
      · exact this
      · simp [this]
def opn (r : Int) : Bool := (cls ((decU r).getD 0 0) == 0) && !trl ((decU r).getD 0 0)
theorem intC {w : World} {A : Option Addr} {n : Nat} {xs : List Int} (h : K3.C w A n xs) (j : Nat) (hj : j < n) : ∃ ad, A = some ad ∧ w.cell? (ad.add j) = some (.int .i32 (xs.getD j 0)) := by
  have h1 := (rdint h).2.2 (by omega)
  obtain ⟨ad, h2, h3⟩ := h1
  exact ⟨ad, h2, h3 j hj⟩
theorem intC0 {w : World} {A : Option Addr} {n : Nat} {xs : List Int} (h : K3.C w A n xs) (hn : 0 < n) : ∃ ad, A = some ad ∧ w.cell? ad = some (.int .i32 (xs.getD 0 0)) := by
  obtain ⟨ad, h2, h3⟩ := intC h 0 hn
  exact ⟨ad, h2, h3⟩
set_option maxRecDepth 100000 in
set_option maxHeartbeats 1000000 in
theorem OpensP (w : World) (hG : G w) (r : Int) (hr : -2147483648 ≤ r ∧ r ≤ 2147483647) : Calls Tryd.prog 87 #[.int .i32 r] w fun e w' => e = .returned (.bool (opn r)) ∧ Below w.heap.size w w' := by
  have HG := Aside0.mk hG
  have HD := Aside0.mk (DecP w hG r hr)
  have HNE := Aside0.mk (decF_ne 4 r)
  have HO := Aside0.mk (show opn r = ((cls ((decU r).getD 0 0) == 0) && !trl ((decU r).getD 0 0)) from rfl)
  clear hG hr
  obtain ⟨l, hl⟩ : ∃ l, l = decU r := ⟨_, rfl⟩
  rw [show decF 4 r = decU r from rfl, ← hl] at HNE
  rw [← hl] at HD HO
  clear hl
  obtain ⟨n, hn⟩ : ∃ n, n = l.length := ⟨_, rfl⟩
  have hn0 : 0 < n := by rw [hn]; exact List.length_pos_iff.2 HNE.out
  obtain ⟨x, hx⟩ : ∃ x, x = l.getD 0 0 := ⟨_, rfl⟩
  rw [← hx] at HO
  have HN := Aside0.mk hn
  have HX := Aside0.mk hx
  clear hn hx
  cases hc : (cls x == 0) with
  | true =>
    rw [hc, Bool.true_and] at HO
    go_enter Tryd.func87, Tryd.ntmps87
    go_wp2_with (first | (go_at_call 53; go_must (refine HD.out.mono ?_; rintro e w1 ⟨v1, rfl, r1, p1⟩; obtain ⟨A1, c1, rfl, hc1, hC1⟩ := Kd.R_reads r1; have HB := Aside0.mk p1; rw [← HN.out] at hC1 ⊢; obtain ⟨ad, rfl, cell⟩ := intC0 hC1 hn0; rw [← HX.out] at cell; clear r1 p1 hC1 hc1)) | (go_at_call 62; go_must (refine (ClassP w1 (HG.out.below HB.out) x).mono ?_; rintro e w2 ⟨rfl, p2⟩; have HB2 := Aside0.mk (below_then HB.out HB.out.size p2); clear p2)) | (go_at_call 94; go_must (refine (TrailP w2 x).mono ?_; rintro e w3 ⟨rfl, p3⟩; have HB3 := Aside0.mk (below_then HB2.out HB2.out.size p3); clear p3)))
    go_ret
    exact ⟨by rw [HO.out]; rfl, HB3.out⟩
  | false =>
    rw [hc, Bool.false_and] at HO
    go_enter Tryd.func87, Tryd.ntmps87
    go_wp2_with (first | (go_at_call 53; go_must (refine HD.out.mono ?_; rintro e w1 ⟨v1, rfl, r1, p1⟩; obtain ⟨A1, c1, rfl, hc1, hC1⟩ := Kd.R_reads r1; have HB := Aside0.mk p1; rw [← HN.out] at hC1 ⊢; obtain ⟨ad, rfl, cell⟩ := intC0 hC1 hn0; rw [← HX.out] at cell; clear r1 p1 hC1 hc1)) | (go_at_call 62; go_must (refine (ClassP w1 (HG.out.below HB.out) x).mono ?_; rintro e w2 ⟨rfl, p2⟩; have HB2 := Aside0.mk (below_then HB.out HB.out.size p2); clear p2)))
    go_ret
    exact ⟨by rw [HO.out]; rfl, HB2.out⟩
theorem same_loop (l m : List Int) (hl : l.length ≤ 1000000000) (hlm : l.length = m.length) (d : Nat) : ∀ (i k : Nat), l.length - i = d → i ≤ l.length → d < k → tremaref01_SameRunes.l0 k l m i = some (decide (l.drop i = m.drop i)) := by
  induction d with
  | zero =>
    intro i k h1 h2 h3
    obtain ⟨k, rfl⟩ : ∃ q, k = q + 1 := ⟨k - 1, by omega⟩
    rw [tremaref01_SameRunes.l0, if_neg (by omega), List.drop_eq_nil_of_le (by omega), List.drop_eq_nil_of_le (by omega)]
    rfl
  | succ d ih =>
    intro i k h1 h2 h3
    obtain ⟨k, rfl⟩ : ∃ q, k = q + 1 := ⟨k - 1, by omega⟩
    have hlt : i < l.length := by omega
    have hlt2 : i < m.length := by omega
    have hih := ih (i + 1) k (by omega) (by omega) (by omega)
    have hw : wrap64 ((i : Int) + 1) = ((i + 1 : Nat) : Int) := by unfold wrap64; omega
    have c1 : (i : Int) < (l.length : Int) := by omega
    have c2 : (i : Int) < (m.length : Int) := by omega
    have c3 : 0 ≤ (i : Int) := by omega
    have e1 : rd l (i : Int) = l[i] := by simp [rd, List.getD_eq_getElem?_getD, List.getElem?_eq_getElem hlt]
    have e2 : rd m (i : Int) = m[i] := by simp [rd, List.getD_eq_getElem?_getD, List.getElem?_eq_getElem hlt2]
    rw [tremaref01_SameRunes.l0, if_pos c1, if_pos c3, if_pos c2, e1, e2, List.drop_eq_getElem_cons hlt, List.drop_eq_getElem_cons hlt2]
    by_cases h : l[i] = m[i]
    · rw [if_pos h, hw, hih]
      congr 1
      rw [decide_eq_decide]
      exact ⟨fun e => by rw [h, e], fun e => (List.cons.inj e).2⟩
    · rw [if_neg h]
      congr 1
      symm
      rw [decide_eq_false_iff_not]
      exact fun e => h (List.cons.inj e).1
theorem same_pure (l m : List Int) (hl : l.length ≤ 1000000000) : tremaref01_SameRunes.f (l.length + 1) l m = some (decide (l = m)) := by
  unfold tremaref01_SameRunes.f
  by_cases h : l.length = m.length
  · rw [if_pos (by omega)]
    have := same_loop l m hl h l.length 0 (l.length + 1) (by omega) (by omega) (by omega)
    simpa using this
  · rw [if_neg (by omega)]
    have : l ≠ m := fun e => h (by rw [e])
    simp [this]
end Go.Proofs.YtiggjbclbdikmaaDoor.Ve
namespace Go.Proofs.YtiggjbclbdikmaaDoor.X
open Go.RowKit Go.Proofs.YtiggjbclbdikmaaDoorW.PrintWords
def ucd_Opens.f (a0 : Int) : Option Bool := if -2147483648 ≤ a0 ∧ a0 ≤ 2147483647 then some (Ve.opn a0) else none
theorem ucd_Opens.calls (a0 : Int) (r : Bool) (w : World) (h : ucd_Opens.f a0 = some r) (hG0 : Va.G w) : Calls Tryd.prog 87 #[.int .i32 a0] w fun e w' => e = .returned (.bool r) ∧ Below w.heap.size w w' := by
  unfold ucd_Opens.f at h
  split at h
  · rename_i hr
    obtain rfl := Option.some.inj h
    exact Ve.OpensP w hG0 a0 hr
  · cases h
end Go.Proofs.YtiggjbclbdikmaaDoor.X
namespace Go.Proofs.YtiggjbclbdikmaaDoor.Fr
set_option linter.unusedVariables false
set_option linter.unusedSimpArgs false
open Go.RowKit Go.Proofs.YtiggjbclbdikmaaDoorW.PrintWords Go.Proofs.YtiggjbclbdikmaaDoorW.PrintLast Go.Proofs.YtiggjbclbdikmaaDoorW.PrintMore Go.Proofs.YtiggjbclbdikmaaDoor.Hp Go.Proofs.YtiggjbclbdikmaaDoor.Va Go.Proofs.YtiggjbclbdikmaaDoor.Vd Go.Proofs.YtiggjbclbdikmaaDoor.Ve Go.Proofs.YtiggjbclbdikmaaDoor.Na Go.Proofs.YtiggjbclbdikmaaDoor.Nb Go.Proofs.YtiggjbclbdikmaaDoor.Nc Go.Proofs.YtiggjbclbdikmaaDoor.Ns Go.Proofs.YtiggjbclbdikmaaDoor.Ng Go.Proofs.YtiggjbclbdikmaaDoor.X
def WritePost (w : World) (g base : Nat) (all : List Int) (e : Ending) (w' : World) : Prop :=
  ∃ A, e = .returned (.slice A (sure all) (sure all)) ∧ Row w' A (sure all) (ordL (all.take (sure all))) ∧ (∀ ad, A = some ad → w.heap.size ≤ ad.block) ∧
    IsForm g base (all.drop (sure all)) false (fun b => b = g ∨ (w.heap.size ≤ b ∧ ∀ ad, A = some ad → b ≠ ad.block)) w' ∧ Chg (fun b => b = g) w w'
theorem own_R {w : World} {base : Nat} {e : TypeId} {v : Value} {xs : List Int} (h : w.ownsRow base e 1 v xs.length (nums .i32 xs)) : K3.R e w base (fun b => base ≤ b) v xs :=
  Kd.R_of_own (enc := Value.int .i32) (h1 := fun _ => rfl) h (fun k hk => own_base h k hk)
theorem cut3 (A : Option Addr) (n c m : Nat) (hm : m ≤ n) : ∃ A' : Option Addr, (∀ W : World, (Instr.slice 22 (.slice A n c) (some (.int .i64 (m : Int))) none none).run Tryd.prog W = .ok (.slice A' (n - m) (c - m)) W) ∧
    ∀ (w : World) (xs : List Int), n ≤ c → ReadsInt w .i32 A n xs → ReadsInt w .i32 A' (n - m) (xs.drop m) := by
  obtain ⟨i, hi, hs⟩ := Option.map_eq_some_iff.1 info21
  have hsz : i.size = 1 := by have := congrArg (fun q => q.2.1) hs; simpa using this
  obtain ⟨A', h1, h2⟩ := print_cut (P := Tryd.prog) 22 21 .i64 Tryd.underlying22 hi hsz A n c m hm
  exact ⟨A', h1, fun w xs => h2 w .i32 xs⟩
theorem form_end {w w5 w6 wr : World} {g base : Nat} {kv v5 : Value} {ys : List Int} (F5 : w5.heap[g]? = some (.cells #[kv, .bool false] TF (0, 0))) (P1 : K3.R T3 w5 wr.heap.size (fun b => wr.heap.size ≤ b) v5 ys)
    (hg : g < w.heap.size) (hw : w.heap.size ≤ wr.heap.size) (hbg : base ≤ g) (A : Option Addr) (hA : ∀ ad, A = some ad → ad.block < wr.heap.size ∧ ad.block ≠ g)
    (c6 : Chg (fun b => ∃ ad, A = some ad ∧ b = ad.block) (w5.setCell ⟨g, 0, none⟩ v5) w6) : IsForm g base ys false (fun b => b = g ∨ (w.heap.size ≤ b ∧ ∀ ad, A = some ad → b ≠ ad.block)) w6 := by
  have ch5 : Chg (fun b => b = g) w5 (w5.setCell ⟨g, 0, none⟩ v5) := (Chg.refl (fun b => b = g) w5).setCell (p := ⟨g, 0, none⟩) (.inl rfl) _
  have b6 := c6.heap (blk_set F5 0 v5) (fun ⟨ad, e, h⟩ => (hA ad e).2 h.symm)
  refine ⟨v5, by simpa using b6, hbg, .inl rfl, ?_⟩
  have r1 := R_chg P1 ch5 (fun k hk h => by omega)
  have r2 := R_chg r1 c6 (fun k hk ⟨ad, e, h⟩ => by have := (hA ad e).1; omega)
  exact Kd.R_mono (Kd.R_lower r2 (by omega)) (fun k hk => ⟨.inr ⟨by omega, fun ad e h => by have := (hA ad e).1; omega⟩, by omega⟩)
set_option maxRecDepth 100000 in
set_option maxHeartbeats 8000000 in
theorem Write (w : World) (hG : G w) (g base : Nat) (kept : List Int) (ok : Nat → Prop) (h : IsForm g base kept false ok w) (hb3 : 3 ≤ base) (A : Option Addr) (n c : Nat) (l : List Int) (hC : K3.C w A n l) (hnc : n ≤ c) (hwf : ∀ x ∈ l, -2147483648 ≤ x ∧ x ≤ 2147483647) (hsz : (kept ++ l.flatMap decU).length ≤ 1000000000000) :
    Calls Tryd.prog 31 #[.pointer (some ⟨g, 0, none⟩), .slice A n c] w (WritePost w g base (kept ++ l.flatMap decU)) := by
  obtain ⟨all, hall⟩ : ∃ all, all = kept ++ l.flatMap decU := ⟨_, rfl⟩
  rw [← hall] at hsz ⊢
  have HALL := Aside0.mk hall
  obtain ⟨kv, h1, h2, h3, h4⟩ := h
  obtain ⟨A0, c0, rfl, hc0, hrow, hA⟩ := Row.of h4
  have hkl : kept.length ≤ 1000000000000 := by rw [hall, List.length_append] at hsz; omega
  have hr0 := rdint (hrow.C (by omega))
  have c1 : w.cell? ⟨g, 0, none⟩ = some (.slice A0 kept.length c0) := by simp [World.cell?, h1]
  have c2 : w.cell? ⟨g, 1, none⟩ = some (.bool false) := by simp [World.cell?, h1]
  have HCl := Aside0.mk (Clint32.clone w A0 kept.length c0 kept hr0 (by omega))
  have hn := (rdint hC).1
  obtain ⟨L, hL⟩ : ∃ L, L = kept.length := ⟨_, rfl⟩
  rw [← hL] at c1 HCl
  have HG := Aside0.mk hG
  have HF := Aside0.mk h1
  have HC := Aside0.mk hC
  have HWF := Aside0.mk hwf
  have HSZ := Aside0.mk hsz
  have HN := Aside0.mk hn
  have HL := Aside0.mk hL
  have H23 := Aside0.mk (And.intro h2 (And.intro h3 (And.intro hb3 (blk_lt h1))))
  have HLL := Aside0.mk (show l.length ≤ 1000000000000 by
    have : l.length ≤ (l.flatMap decU).length := by
      clear hall HALL hsz hwf hC hn HCl HC HWF HSZ HN
      induction l with
      | nil => simp
      | cons x t ih =>
        have := List.length_pos_iff.2 (decF_ne 4 x)
        have e : (decU x).length = (decF 4 x).length := rfl
        rw [List.flatMap_cons, List.length_append, List.length_cons, e]
        omega
    rw [hall, List.length_append] at hsz
    omega)
  clear hall hG h1 h2 h3 h4 hc0 hrow hA hkl hr0 hC hwf hsz hn hL hb3
  go_enter Tryd.func31, Tryd.ntmps31
  go_upto_region 4 with (first | (go_at_call 61; go_must (refine HCl.out.mono ?_; rintro e w1 ⟨v, rfl, p1, p2⟩; have HO := Aside0.mk (show K3.R T3 w1 w.heap.size (fun _ => True) v kept by have h := p1; rw [HL.out] at h; exact Kd.R_mono (own_R h) (fun _ _ => trivial)); have HB := Aside0.mk p2; clear p1 p2)))
  go_wp2
  go_loopw [5, 24] (fun v5 v24 wr => ∃ (i : Nat) (xs : List Int), v24 = .int .i64 i ∧ i ≤ n ∧ Aside0 (xs = kept ++ (l.take i).flatMap decU) ∧ Aside0 (K3.R T3 wr w.heap.size (fun _ => True) v5 xs) ∧ Aside0 (Below w.heap.size w wr)) (fun _ v24 _ => n - (intOf v24).toNat)
  case atStart => exact ⟨0, kept, rfl, Nat.zero_le _, ⟨by simp⟩, HO, HB⟩
  case round =>
    clear HO HB
    obtain ⟨i, xs, rfl, hi, HX, HO_3, HB⟩ := hrel
    by_cases hlt : i < n
    · have hd : decide ((i : Int) < (n : Int)) = true := decide_eq_true (by omega)
      have hd2 : decide (i < n) = true := decide_eq_true hlt
      have hil : i < l.length := by have := HN.out; omega
      obtain ⟨ad, rfl, hx⟩ := Kd.at_int HC.out (i : Int) (by omega) (by omega)
      rw [show rd l (i : Int) = l[i] by unfold rd; simp [List.getD_eq_getElem?_getD, List.getElem?_eq_getElem hil], Int.toNat_natCast] at hx
      have hx := (HB.out.cell (World.block_lt_of_cell? w _ hx)).trans hx
      have hn0 : (0 : Int) ≤ (i : Int) := by omega
      have hn1 : (i : Int) < (n : Int) := by omega
      have hnl : n ≤ 1000000000000 := by have := HN.out; have := HLL.out; omega
      obtain ⟨y, hy⟩ : ∃ y : List Int, y = xs ++ decU l[i] := ⟨_, rfl⟩
      have HY := Aside0.mk hy
      have hyl : y = kept ++ (l.take (i + 1)).flatMap decU := by rw [hy, HX.out, List.take_succ_eq_append_getElem hil, List.flatMap_append, List.append_assoc]; simp
      have HYl := Aside0.mk hyl
      have LM := Aside0.mk (show xs.length + (decU l[i]).length < 35184372088832 by
        have h1 := HSZ.out
        have h2 : all.length = y.length + ((l.drop (i + 1)).flatMap decU).length := by
          rw [HALL.out, hyl, ← List.take_append_drop (i + 1) l, List.flatMap_append]
          simp only [List.length_append, List.take_append_drop]
          omega
        have h3 : y.length = xs.length + (decU l[i]).length := by rw [hy, List.length_append]
        omega)
      have A5 := Aside0.mk (show ucd_Decompose.f l[i] = some (decU l[i]) by unfold ucd_Decompose.f; rw [if_pos (HWF.out _ (List.getElem_mem hil))])
      clear hy hyl
      go_wp2_with (first | (go_at_call 53; go_must ((with_reducible refine (ucd_Decompose.calls l[i] (decU l[i]) _ A5.out (Va.G.below HG.out HB.out)).mono ?_); rintro e w7 ⟨v232, rfl, ho0, hb⟩; have n0_ := Aside0.mk (Kd.R_elder' (by (with_reducible repeat (first | apply Kd.R_alloc | apply Kd.R_drewN | apply Kd.R_drew)); exact HO_3.out) (Kd.R_base ho0) hb); have n1_ := Aside0.mk (Kd.R_lower (Kd.R_new' ho0 (Kd.R_lt (by (with_reducible repeat (first | apply Kd.R_alloc | apply Kd.R_drewN | apply Kd.R_drew)); exact HO_3.out))) HB.out.size); have n2_ := Aside0.mk (below_step HB.out hb); clear HO_3; clear HB; have HO_3 := n0_; have HO233 := n1_; have HB := n2_; clear n0_ n1_ n2_; (try clear hb); (try clear ho0); obtain ⟨Ao9, co9, eo9⟩ := Kd.R_slice HO233.out; subst eo9)) | (at_builtin; go_must (refine Kd.R_append_rows K3 (w0 := w) w.heap.size rfl (.tmp 28) (.tmp 30) 22 21 (.int .i32 0) 4 rfl Tryd.underlying22 info21 rfl (by decide) (by omega) u5 xs (decU l[i]) _ _ _ (fun k_ => some k_ ≠ (.slice Ao9 (decU l[i]).length co9 : Value).ownBlock) (fun _ => False) rfl rfl ?aO ?aR (fun _ _ h => h) (fun _ h => h.elim) ?aF ?aB ?aS ?aL ?_; (case aR => exact (Kd.R_reads' HO233.out).2.2); (case aB => exact HB.out); (case aF => exact (fun k_ hk => Kd.fresh' (Kd.R_lt HO233.out) k_ hk)); (case aO => exact Kd.R_mono HO_3.out (fun _ hk => hk.2)); (case aS => exact HB.out.size); (case aL => have := LM.out; omega); intro v235 w8 ho hb hg hat; rw [← HY.out] at ho; have n1_ := Aside0.mk hb; have n2_ := Aside0.mk ho; clear HO233; clear HB; clear HO_3; have HB := n1_; have HO236 := n2_; clear n1_ n2_; clear ho hb hg hat)))
      go_roundw
      case rel => exact ⟨i + 1, y, by go_num, by omega, HYl, ⟨Kd.R_mono HO236.out (fun _ _ => trivial)⟩, HB⟩
      case measure => simp [intOf] <;> omega
    · have hd : decide ((i : Int) < (n : Int)) = false := decide_eq_false (by omega)
      have hd2 : decide (i < n) = false := decide_eq_false hlt
      go_upto_region 9 with (fail)
      have hxs : xs = all := by have := HN.out; rw [HX.out, HALL.out, List.take_of_length_le (by omega)]
      subst hxs
      obtain ⟨Aa, ca, rfl, hca, hrow, hAa⟩ := Row.of HO_3.out
      obtain ⟨M, hM⟩ : ∃ M, M = xs.length := ⟨_, rfl⟩
      have HM := Aside0.mk hM
      have hM5 : M ≤ 1000000000000 := by have := HSZ.out; omega
      rw [← hM]
      rw [← hM] at hca
      have HAa := Aside0.mk hAa
      clear HO_3 HX hM hAa HCl c1 c2 hd hd2 hlt hi
      rcases hrow with ⟨rfl, h0, rfl⟩ | ⟨ga, post, rfl, hR, h1, h2⟩
      · subst h0
        have hM0 : M = 0 := HM.out
        subst hM0
        go_wp2
        go_loopw [8] (fun v8 wr => v8 = .int .i64 0 ∧ Aside0 (Below w.heap.size w wr)) (fun _ _ => 0)
        case atStart => exact ⟨rfl, HB⟩
        case round =>
          clear HB
          obtain ⟨rfl, HB⟩ := hrel
          have HCl2 := Aside0.mk (Clint32.clone wr none 0 0 [] ⟨rfl, by omega, fun h => by omega⟩ (by omega))
          go_upto_region 13 with (first | (go_at_call 61; go_must (refine HCl2.out.mono ?_; rintro e w5 ⟨v5, rfl, p1, p2⟩; have P1 := Aside0.mk (own_R (xs := []) p1); have HB5 := Aside0.mk (below_step HB.out p2); have hb5 := blk_below HF.out HB5.out; have F5 := Aside0.mk hb5; (have c5 : w5.cell? ⟨g, 0, none⟩ = some (.slice A0 kept.length c0) := (by simp [World.cell?, hb5])); (have f5 : w5.frozen? ⟨g, 0, none⟩ = false := (by simp [World.frozen?, hb5])); clear p1 p2 hb5; obtain ⟨A5, ca5, e5⟩ := Kd.R_slice P1.out; subst e5)))
          have HCall := Aside0.mk (OrdN (w5.setCell ⟨g, 0, none⟩ (.slice A5 ([] : List Int).length ca5)))
          go_wp2_with (first | (go_at_call 54; go_must (refine HCall.out.mono ?_; rintro e w6 ⟨rfl, p1⟩; have HC6 := Aside0.mk p1; clear p1)))
          go_ret
          have ch5 : Chg (fun b => b = g) w5 (w5.setCell ⟨g, 0, none⟩ (.slice A5 ([] : List Int).length ca5)) := (Chg.refl (fun b => b = g) w5).setCell (p := ⟨g, 0, none⟩) (.inl rfl) _
          refine ⟨none, rfl, .inl ⟨rfl, rfl, rfl⟩, fun _ h => (by cases h), form_end F5.out P1.out H23.out.2.2.2 HB.out.size H23.out.1 none (fun _ h => (by cases h)) (HC6.out.mono (fun _ _ h => h.elim)), ?_⟩
          exact ((Chg.of_below HB5.out (fun k h1 h2 => by omega)).trans ch5 (fun _ _ h => h)).trans HC6.out (fun _ _ h => h.elim)
      · go_wp2
        go_loopw [8] (fun v8 wr => ∃ N : Nat, v8 = .int .i64 N ∧ N ≤ M ∧ Aside0 (∀ x ∈ xs.drop N, cls x ≠ 0) ∧ Aside0 (Reg wr ga [] post xs) ∧ Aside0 (Below w.heap.size w wr)) (fun v8 _ => (intOf v8).toNat)
        case atStart => exact ⟨M, rfl, Nat.le_refl _, ⟨by rw [HM.out]; simp⟩, ⟨hR⟩, HB⟩
        case round =>
          clear HB hR
          obtain ⟨N, rfl, hNM, HK, HR, HB⟩ := hrel
          rcases Nat.eq_zero_or_pos N with h0 | h0
          · subst h0
            have q1 : decide ((0 : Int) < ((0 : Nat) : Int)) = false := rfl
            have HS := Aside0.mk (sure_of (Nat.zero_le _) HK.out (.inl rfl))
            clear HK
            obtain ⟨A1, hcut, hA1⟩ := cut3 (some ⟨ga, 0, none⟩) M ca (0) (by omega)
            have hcut : ∀ W : World, (Instr.slice 22 (.slice (some ⟨ga, 0, none⟩) M ca) (some (.int .i64 (0))) none none).run Tryd.prog W = .ok (.slice A1 (M - (0)) (ca - (0))) W := fun W => by have := hcut W; simpa using this
            have hrd := hA1 _ xs hca (by rw [HM.out]; exact rdint (Row.C (.inr ⟨ga, post, rfl, HR.out, h1, h2⟩) (by have := HM.out; omega)))
            have HCl2 := Aside0.mk (Clint32.clone _ A1 (M - (0)) (ca - (0)) (xs.drop (0)) hrd (by omega))
            have hga : w.heap.size ≤ ga := (HAa.out _ rfl).1
            have HGA := Aside0.mk (And.intro hga HR.out.lt)
            have HMM := Aside0.mk (And.intro hca (And.intro h1 h2))
            have g1 : (0 : Int) ≤ (0 : Int) := by omega
            have g2 : (0 : Int) ≤ (M : Int) := by omega
            have g3 : (0 : Int) ≤ (ca : Int) := by omega
            clear hA1 hrd hga h1 h2
            go_upto_region 13 with (first | (go_at_call 61; go_must (refine HCl2.out.mono ?_; rintro e w5 ⟨v5, rfl, p1, p2⟩; have P1 := Aside0.mk (own_R p1); have HR5 := Aside0.mk (HR.out.below p2); have HB5 := Aside0.mk (below_step HB.out p2); have hb5 := blk_below HF.out HB5.out; have F5 := Aside0.mk hb5; (have c5 : w5.cell? ⟨g, 0, none⟩ = some (.slice A0 kept.length c0) := (by simp [World.cell?, hb5])); (have f5 : w5.frozen? ⟨g, 0, none⟩ = false := (by simp [World.frozen?, hb5])); clear p1 p2 hb5; obtain ⟨A5, ca5, e5⟩ := Kd.R_slice P1.out; obtain ⟨q5, hq5⟩ : ∃ q5, q5 = (xs.drop (0)).length := ⟨_, rfl⟩; rw [← hq5] at e5; subst e5; clear hq5)))
            have hne : ga ≠ g := by have := HGA.out.1; have := H23.out.2.2.2; omega
            have ch5 : Chg (fun b => b = g) w5 (w5.setCell ⟨g, 0, none⟩ (.slice A5 q5 ca5)) := (Chg.refl (fun b => b = g) w5).setCell (p := ⟨g, 0, none⟩) (.inl rfl) _
            have HCall := Aside0.mk (OrdC (w5.setCell ⟨g, 0, none⟩ (.slice A5 q5 ca5)) (G_chg (HG.out.below HB5.out) ch5 (fun k hk e => by have := H23.out.2.2.1; have := H23.out.1; omega)) (some ⟨ga, 0, none⟩) (0) (xs.take (0)) (.inr ⟨ga, nums .i32 (xs.drop (0)) ++ post, rfl, Reg.mid (pre := []) (P := []) (S := xs.take (0)) (Q := xs.drop (0)) (by rw [List.nil_append, List.take_append_drop]; exact HR5.out.chg ch5 hne), (by rw [List.length_take]; omega), (by have := HMM.out.2.2; omega)⟩) (fun ad e => by cases e; have := H23.out.2.2.1; have := H23.out.1; have := HGA.out.1; have := H23.out.2.2.2; show 3 ≤ ga; omega) (0) (by have := HM.out; rw [List.length_take]; omega) (by omega))
            have HCh5 := Aside0.mk ch5
            have HNE := Aside0.mk hne
            clear ch5 hne
            go_wp2_with (first | (go_at_call 54; go_must (refine HCall.out.mono ?_; rintro e w6 ⟨rfl, p1, p2⟩; have HC6 := Aside0.mk p1; have HR6 := Aside0.mk p2; clear p1 p2)))
            go_ret
            unfold WritePost
            rw [HS.out]
            refine ⟨some ⟨ga, 0, none⟩, rfl, HR6.out, fun ad e => (by cases e; exact HGA.out.1), form_end F5.out P1.out H23.out.2.2.2 HB.out.size H23.out.1 (some ⟨ga, 0, none⟩) (fun ad e => (by cases e; exact ⟨HGA.out.2, HNE.out⟩)) HC6.out, ?_⟩
            refine ((Chg.of_below HB5.out (fun k h1 h2 => by omega)).trans HCh5.out (fun _ _ h => h)).trans HC6.out (fun k hk h => ?_)
            obtain ⟨ad, e, rfl⟩ := h
            cases e
            exact absurd hk (by have := HGA.out.1; show ¬ ga < _; omega)
          · obtain ⟨P, rfl⟩ : ∃ P, N = P + 1 := ⟨N - 1, by omega⟩
            have q1 : decide ((0 : Int) < ((P + 1 : Nat) : Int)) = true := decide_eq_true (by omega)
            have q1b : decide (0 < P + 1) = true := decide_eq_true (by omega)
            have q2 : ((P + 1 : Nat) : Int) - 1 = (P : Int) := by omega
            have q3 : (P : Int) < (M : Int) := by omega
            obtain ⟨x, hx1, hx2, hx3, -⟩ := split_at (S := xs) (t := P) (by have := HM.out; omega)
            have k1 := HR.out
            rw [hx1] at k1
            have k1 := Reg.one k1 (off := 0) rfl (p := P) (by have := HM.out; rw [List.length_take]; omega)
            rw [Nat.zero_add] at k1
            have HX1 := Aside0.mk hx2
            have HX2 := Aside0.mk hx3
            clear hx1 hx2 hx3
            have HCx := Aside0.mk (ClassP wr (HG.out.below HB.out) x)
            by_cases hz : cls x = 0
            · have z1 : (cls x != 0) = false := by rw [hz]; rfl
              have z2 : (cls x == 0) = true := by rw [hz]; rfl
              have HS := Aside0.mk (sure_of (by have := HM.out; omega) HK.out (.inr ⟨_, x, HX2.out, hz⟩))
              clear hz HK
              go_upto_region 12 with (first | (go_at_call 62; go_must (refine HCx.out.mono ?_; rintro e w2 ⟨rfl, p1⟩; have HB2 := Aside0.mk (below_step HB.out p1); have HR2 := Aside0.mk (HR.out.below p1); clear p1 k1 HB HR)))
              have HB := HB2
              have HR := HR2
              clear HB2 HR2
              obtain ⟨A1, hcut, hA1⟩ := cut3 (some ⟨ga, 0, none⟩) M ca (P + 1) (by omega)
              have hcut : ∀ W : World, (Instr.slice 22 (.slice (some ⟨ga, 0, none⟩) M ca) (some (.int .i64 ((P : Int) + 1))) none none).run Tryd.prog W = .ok (.slice A1 (M - (P + 1)) (ca - (P + 1))) W := fun W => by have := hcut W; simpa using this
              have hrd := hA1 _ xs hca (by rw [HM.out]; exact rdint (Row.C (.inr ⟨ga, post, rfl, HR.out, h1, h2⟩) (by have := HM.out; omega)))
              have HCl2 := Aside0.mk (Clint32.clone _ A1 (M - (P + 1)) (ca - (P + 1)) (xs.drop (P + 1)) hrd (by omega))
              have hga : w.heap.size ≤ ga := (HAa.out _ rfl).1
              have HGA := Aside0.mk (And.intro hga HR.out.lt)
              have HMM := Aside0.mk (And.intro hca (And.intro h1 h2))
              have g1 : (0 : Int) ≤ ((P : Int) + 1 : Int) := by omega
              have g2 : ((P : Int) + 1 : Int) ≤ (M : Int) := by omega
              have g3 : ((P : Int) + 1 : Int) ≤ (ca : Int) := by omega
              clear hA1 hrd hga h1 h2
              go_upto_region 13 with (first | (go_at_call 61; go_must (refine HCl2.out.mono ?_; rintro e w5 ⟨v5, rfl, p1, p2⟩; have P1 := Aside0.mk (own_R p1); have HR5 := Aside0.mk (HR.out.below p2); have HB5 := Aside0.mk (below_step HB.out p2); have hb5 := blk_below HF.out HB5.out; have F5 := Aside0.mk hb5; (have c5 : w5.cell? ⟨g, 0, none⟩ = some (.slice A0 kept.length c0) := (by simp [World.cell?, hb5])); (have f5 : w5.frozen? ⟨g, 0, none⟩ = false := (by simp [World.frozen?, hb5])); clear p1 p2 hb5; obtain ⟨A5, ca5, e5⟩ := Kd.R_slice P1.out; obtain ⟨q5, hq5⟩ : ∃ q5, q5 = (xs.drop (P + 1)).length := ⟨_, rfl⟩; rw [← hq5] at e5; subst e5; clear hq5)))
              have hne : ga ≠ g := by have := HGA.out.1; have := H23.out.2.2.2; omega
              have ch5 : Chg (fun b => b = g) w5 (w5.setCell ⟨g, 0, none⟩ (.slice A5 q5 ca5)) := (Chg.refl (fun b => b = g) w5).setCell (p := ⟨g, 0, none⟩) (.inl rfl) _
              have HCall := Aside0.mk (OrdC (w5.setCell ⟨g, 0, none⟩ (.slice A5 q5 ca5)) (G_chg (HG.out.below HB5.out) ch5 (fun k hk e => by have := H23.out.2.2.1; have := H23.out.1; omega)) (some ⟨ga, 0, none⟩) (P + 1) (xs.take (P + 1)) (.inr ⟨ga, nums .i32 (xs.drop (P + 1)) ++ post, rfl, Reg.mid (pre := []) (P := []) (S := xs.take (P + 1)) (Q := xs.drop (P + 1)) (by rw [List.nil_append, List.take_append_drop]; exact HR5.out.chg ch5 hne), (by rw [List.length_take]; omega), (by have := HMM.out.2.2; omega)⟩) (fun ad e => by cases e; have := H23.out.2.2.1; have := H23.out.1; have := HGA.out.1; have := H23.out.2.2.2; show 3 ≤ ga; omega) (P + 1) (by have := HM.out; rw [List.length_take]; omega) (by omega))
              have HCh5 := Aside0.mk ch5
              have HNE := Aside0.mk hne
              clear ch5 hne
              go_wp2_with (first | (go_at_call 54; go_must (refine HCall.out.mono ?_; rintro e w6 ⟨rfl, p1, p2⟩; have HC6 := Aside0.mk p1; have HR6 := Aside0.mk p2; clear p1 p2)))
              go_ret
              unfold WritePost
              rw [HS.out]
              refine ⟨some ⟨ga, 0, none⟩, rfl, HR6.out, fun ad e => (by cases e; exact HGA.out.1), form_end F5.out P1.out H23.out.2.2.2 HB.out.size H23.out.1 (some ⟨ga, 0, none⟩) (fun ad e => (by cases e; exact ⟨HGA.out.2, HNE.out⟩)) HC6.out, ?_⟩
              refine ((Chg.of_below HB5.out (fun k h1 h2 => by omega)).trans HCh5.out (fun _ _ h => h)).trans HC6.out (fun k hk h => ?_)
              obtain ⟨ad, e, rfl⟩ := h
              cases e
              exact absurd hk (by have := HGA.out.1; show ¬ ga < _; omega)
            · have z1 : (cls x != 0) = true := by simpa using hz
              have z2 : (cls x == 0) = false := by simpa using hz
              have HZ := Aside0.mk hz
              clear hz
              go_wp2_with (first | (go_at_call 62; go_must (refine HCx.out.mono ?_; rintro e w2 ⟨rfl, p1⟩; have HB2 := Aside0.mk (below_step HB.out p1); have HR2 := Aside0.mk (HR.out.below p1); clear p1 k1 HB HR)))
              go_roundw
              case rel => exact ⟨P, by go_num, by omega, ⟨fun y hy => by rw [HX1.out] at hy; rcases List.mem_cons.1 hy with rfl | hy; (· exact HZ.out); (· exact HK.out y hy)⟩, HR2, HB2⟩
              case measure => simp [intOf] <;> omega
end Go.Proofs.YtiggjbclbdikmaaDoor.Fr
namespace Go.Proofs.YtiggjbclbdikmaaDoor.X
open Go.RowKit Go.Proofs.YtiggjbclbdikmaaDoorW.PrintWords Go.Proofs.YtiggjbclbdikmaaDoorW.PrintLast Go.Proofs.YtiggjbclbdikmaaDoorW.PrintMore
attribute [local go_sem] max2_int min2_int max_two min_two max_three min_three max_four min_four   
set_option linter.unusedVariables false
set_option linter.unusedSimpArgs false
def utf_lead.j0 : Nat → Int → Int → Int → Bool → Option (Int × Int × Int × Int)
 | 0, _, _, _, _ => none
 | k + 1, x0, x4, x5, x13 => if x13 = true then (some (0, 0, x4, x5)) else (if x0 < 224 then (some (2, wrap32 (Go.bits .and .u8 x0 31), x4, x5)) else (if x0 < 240 then (if x0 = 224 then (some (3, wrap32 (Go.bits .and .u8 x0 15), 160, x5)) else (if x0 = 237 then (some (3, wrap32 (Go.bits .and .u8 x0 15), x4, 159)) else (some (3, wrap32 (Go.bits .and .u8 x0 15), x4, x5)))) else (if x0 = 240 then (some (4, wrap32 (Go.bits .and .u8 x0 7), 144, x5)) else (if x0 = 244 then (some (4, wrap32 (Go.bits .and .u8 x0 7), x4, 143)) else (some (4, wrap32 (Go.bits .and .u8 x0 7), x4, x5))))))
def utf_lead.f (k : Nat) (a0 : Int) : Option (Int × Int × Int × Int) := if a0 < 128 then (some (1, wrap32 (a0), 128, 191)) else (if a0 < 194 then (utf_lead.j0 k a0 128 191 true) else (utf_lead.j0 k a0 128 191 (decide (a0 > 244))))
theorem utf_lead.mono_l : ∀ k, (∀ y0 y1 y2 y3, LeO (utf_lead.j0 k y0 y1 y2 y3) (utf_lead.j0 (k + 1) y0 y1 y2 y3))
 | 0 => fun _ _ _ _ r h => by simp [utf_lead.j0] at h
 | k + 1 => by
  have ih0 := utf_lead.mono_l k
  ·intro y0 y1 y2 y3
   unfold utf_lead.j0
   repeat' first
   | (with_reducible exact ih0 _ _ _ _)
   | (with_reducible exact LeO.refl _)
   | (with_reducible exact LeO.none _)
   | (with_reducible refine LeO.ite ?_ ?_)
   | (with_reducible refine LeO.bind ?_ (fun _ => ?_))
   | exact ih0 _ _ _ _
   | exact LeO.none _
   | refine LeO.ite ?_ ?_
   | refine LeO.bind ?_ (fun _ => ?_)
theorem utf_lead.mono : ∀ a0 k, LeO (utf_lead.f k a0) (utf_lead.f (k + 1) a0) := by
 intro a0 k
 have ih0 := utf_lead.mono_l k
 unfold utf_lead.f
 repeat' first
   | (with_reducible exact ih0 _ _ _ _)
   | (with_reducible exact LeO.refl _)
   | (with_reducible exact LeO.none _)
   | (with_reducible refine LeO.ite ?_ ?_)
   | (with_reducible refine LeO.bind ?_ (fun _ => ?_))
   | exact ih0 _ _ _ _
   | exact LeO.none _
   | refine LeO.ite ?_ ?_
   | refine LeO.bind ?_ (fun _ => ?_)
set_option maxHeartbeats 8000000 in
set_option maxRecDepth 100000 in
theorem utf_lead.calls (k : Nat) (a0 : Int) (r1 : Int) (r2 : Int) (r3 : Int) (r4 : Int) (w : World) (h : utf_lead.f k a0 = some (r1, r2, r3, r4)) :
  Calls Tryd.prog 95 #[.int .u8 a0] w fun e w' => e = .returned (.tuple #[.int .i64 r1, .int .i32 r2, .int .u8 r3, .int .u8 r4]) ∧ Drawn0 w w' := by
 have H : (if a0 < 128 then (some (1, wrap32 (a0), 128, 191)) else (if a0 < 194 then (utf_lead.j0 k a0 128 191 true) else (utf_lead.j0 k a0 128 191 (decide (a0 > 244))))) = some (r1, r2, r3, r4) := h
 clear h
 by_cases c2 : a0 < 128
 ·rw [if_pos c2] at H
  have c2b0 : decide (a0 < 128) = true := decide_eq_true c2
  clear c2
  simp only [Option.some.injEq, Prod.mk.injEq] at H
  obtain ⟨rfl, rfl, rfl, rfl⟩ := H
  go_enter Tryd.func95, Tryd.ntmps95
  go_wp2
  refine bodyPost_ret (results_list (rs := [.tmp 2, .tmp 3, .tmp 4, .tmp 5]) rfl (by simp) (.tmp (.tmp (.tmp (.tmp .nil))))) rfl ?_
  exact ⟨by first | rfl | (simp; done) | (simp [*]; done), by repeat (first | exact Drawn0.refl _ | apply Drawn0.step)⟩
 ·rw [if_neg c2] at H
  have c2b0 : decide (a0 < 128) = false := decide_eq_false c2
  clear c2
  have HC3 := Aside0.mk H
  clear H
  go_enter Tryd.func95, Tryd.ntmps95
  go_upto_region 4 with (fail)
  go_cut [13] (fun v13 wc => ∃ (kq : Nat) (x13_2 : Bool), v13 = .bool x13_2 ∧ Aside0 (utf_lead.j0 kq a0 128 191 x13_2 = some (r1, r2, r3, r4)) ∧ Aside0 (kq ≤ k) ∧ Drawn0 w wc)
  case first =>
   have H := HC3.out
   clear HC3
   by_cases c4 : a0 < 194
   ·rw [if_pos c4] at H
    have c4b0 : decide (a0 < 194) = true := decide_eq_true c4
    clear c4
    (first | rw [c4b0] | (simp only [i64_w, i32_w]; rw [c4b0]) | skip)
    have H' := Aside0.mk H
    clear H
    go_wp2
    go_meet
    case rel => exact ⟨_, (true), (by first | rfl | (simp; done) | (simp [*]; done)), H', ⟨by first | omega | exact Nat.le_refl _⟩, by repeat (first | exact Drawn0.refl _ | apply Drawn0.step)⟩
   ·rw [if_neg c4] at H
    have c4b0 : decide (a0 < 194) = false := decide_eq_false c4
    clear c4
    (first | rw [c4b0] | (simp only [i64_w, i32_w]; rw [c4b0]) | skip)
    have H' := Aside0.mk H
    clear H
    go_wp2
    go_meet
    case rel => exact ⟨_, (decide (a0 > 244)), (by first | rfl | (simp; done) | (simp [*]; done)), H', ⟨by first | omega | exact Nat.le_refl _⟩, by repeat (first | exact Drawn0.refl _ | apply Drawn0.step)⟩
  case rest =>
   clear HC3
   try clear c2
   try clear c2b0
   try clear p2
   try clear p3
   try clear c4
   try clear c4b0
   obtain ⟨kq, x13_2, rfl, HA, HJ2, ⟨mc2, rfl⟩⟩ := hcut
   cases kq with
   | zero => exact absurd HA.out (by simp [utf_lead.j0])
   | succ kj2 =>
    have H := HA.out
    clear HA
    simp only [utf_lead.j0] at H
    by_cases c5 : x13_2 = true
    ·subst c5
     have H1 : (some (0, 0, 128, 191)) = some (r1, r2, r3, r4) := by rw [if_pos rfl] at H; exact H
     clear H
     have H := H1
     clear H1
     simp only [Option.some.injEq, Prod.mk.injEq] at H
     obtain ⟨rfl, rfl, rfl, rfl⟩ := H
     go_wp2
     refine bodyPost_ret (results_list (rs := [.tmp 2, .tmp 3, .tmp 4, .tmp 5]) rfl (by simp) (.tmp (.tmp (.tmp (.tmp .nil))))) rfl ?_
     exact ⟨by first | rfl | (simp; done) | (simp [*]; done), by repeat (first | exact Drawn0.refl _ | apply Drawn0.step)⟩
    ·replace c5 := Bool.eq_false_iff.mpr c5
     subst c5
     have H1 : (if a0 < 224 then (some (2, wrap32 (Go.bits .and .u8 a0 31), 128, 191)) else (if a0 < 240 then (if a0 = 224 then (some (3, wrap32 (Go.bits .and .u8 a0 15), 160, 191)) else (if a0 = 237 then (some (3, wrap32 (Go.bits .and .u8 a0 15), 128, 159)) else (some (3, wrap32 (Go.bits .and .u8 a0 15), 128, 191)))) else (if a0 = 240 then (some (4, wrap32 (Go.bits .and .u8 a0 7), 144, 191)) else (if a0 = 244 then (some (4, wrap32 (Go.bits .and .u8 a0 7), 128, 143)) else (some (4, wrap32 (Go.bits .and .u8 a0 7), 128, 191)))))) = some (r1, r2, r3, r4) := by rw [if_neg (show ¬ (false = true) by decide)] at H; exact H
     clear H
     have H := H1
     clear H1
     by_cases c6 : a0 < 224
     ·rw [if_pos c6] at H
      have c6b0 : decide (a0 < 224) = true := decide_eq_true c6
      clear c6
      simp only [Option.some.injEq, Prod.mk.injEq] at H
      obtain ⟨rfl, rfl, rfl, rfl⟩ := H
      go_wp2
      refine bodyPost_ret (results_list (rs := [.tmp 2, .tmp 3, .tmp 4, .tmp 5]) rfl (by simp) (.tmp (.tmp (.tmp (.tmp .nil))))) rfl ?_
      exact ⟨by first | rfl | (simp; done) | (simp [*]; done), by repeat (first | exact Drawn0.refl _ | apply Drawn0.step)⟩
     ·rw [if_neg c6] at H
      have c6b0 : decide (a0 < 224) = false := decide_eq_false c6
      clear c6
      by_cases c7 : a0 < 240
      ·rw [if_pos c7] at H
       have c7b0 : decide (a0 < 240) = true := decide_eq_true c7
       clear c7
       by_cases c8 : a0 = 224
       ·rw [if_pos c8] at H
        have c8b0 : (a0 == 224) = true := beq_iff_eq.mpr c8
        have c8b1 : (a0 != 224) = false := bne_eq_false_iff_eq.mpr c8
        clear c8
        simp only [Option.some.injEq, Prod.mk.injEq] at H
        obtain ⟨rfl, rfl, rfl, rfl⟩ := H
        go_wp2
        refine bodyPost_ret (results_list (rs := [.tmp 2, .tmp 3, .tmp 4, .tmp 5]) rfl (by simp) (.tmp (.tmp (.tmp (.tmp .nil))))) rfl ?_
        exact ⟨by first | rfl | (simp; done) | (simp [*]; done), by repeat (first | exact Drawn0.refl _ | apply Drawn0.step)⟩
       ·rw [if_neg c8] at H
        have c8b0 : (a0 == 224) = false := beq_eq_false_iff_ne.mpr c8
        have c8b1 : (a0 != 224) = true := bne_iff_ne.mpr c8
        by_cases c9 : a0 = 237
        ·rw [if_pos c9] at H
         have c9b0 : (a0 == 237) = true := beq_iff_eq.mpr c9
         have c9b1 : (a0 != 237) = false := bne_eq_false_iff_eq.mpr c9
         clear c9
         simp only [Option.some.injEq, Prod.mk.injEq] at H
         obtain ⟨rfl, rfl, rfl, rfl⟩ := H
         go_wp2
         refine bodyPost_ret (results_list (rs := [.tmp 2, .tmp 3, .tmp 4, .tmp 5]) rfl (by simp) (.tmp (.tmp (.tmp (.tmp .nil))))) rfl ?_
         exact ⟨by first | rfl | (simp; done) | (simp [*]; done), by repeat (first | exact Drawn0.refl _ | apply Drawn0.step)⟩
        ·rw [if_neg c9] at H
         have c9b0 : (a0 == 237) = false := beq_eq_false_iff_ne.mpr c9
         have c9b1 : (a0 != 237) = true := bne_iff_ne.mpr c9
         simp only [Option.some.injEq, Prod.mk.injEq] at H
         obtain ⟨rfl, rfl, rfl, rfl⟩ := H
         go_wp2
         refine bodyPost_ret (results_list (rs := [.tmp 2, .tmp 3, .tmp 4, .tmp 5]) rfl (by simp) (.tmp (.tmp (.tmp (.tmp .nil))))) rfl ?_
         exact ⟨by first | rfl | (simp; done) | (simp [*]; done), by repeat (first | exact Drawn0.refl _ | apply Drawn0.step)⟩
      ·rw [if_neg c7] at H
       have c7b0 : decide (a0 < 240) = false := decide_eq_false c7
       clear c7
       by_cases c10 : a0 = 240
       ·rw [if_pos c10] at H
        have c10b0 : (a0 == 240) = true := beq_iff_eq.mpr c10
        have c10b1 : (a0 != 240) = false := bne_eq_false_iff_eq.mpr c10
        clear c10
        simp only [Option.some.injEq, Prod.mk.injEq] at H
        obtain ⟨rfl, rfl, rfl, rfl⟩ := H
        go_wp2
        refine bodyPost_ret (results_list (rs := [.tmp 2, .tmp 3, .tmp 4, .tmp 5]) rfl (by simp) (.tmp (.tmp (.tmp (.tmp .nil))))) rfl ?_
        exact ⟨by first | rfl | (simp; done) | (simp [*]; done), by repeat (first | exact Drawn0.refl _ | apply Drawn0.step)⟩
       ·rw [if_neg c10] at H
        have c10b0 : (a0 == 240) = false := beq_eq_false_iff_ne.mpr c10
        have c10b1 : (a0 != 240) = true := bne_iff_ne.mpr c10
        by_cases c11 : a0 = 244
        ·rw [if_pos c11] at H
         have c11b0 : (a0 == 244) = true := beq_iff_eq.mpr c11
         have c11b1 : (a0 != 244) = false := bne_eq_false_iff_eq.mpr c11
         clear c11
         simp only [Option.some.injEq, Prod.mk.injEq] at H
         obtain ⟨rfl, rfl, rfl, rfl⟩ := H
         go_wp2
         refine bodyPost_ret (results_list (rs := [.tmp 2, .tmp 3, .tmp 4, .tmp 5]) rfl (by simp) (.tmp (.tmp (.tmp (.tmp .nil))))) rfl ?_
         exact ⟨by first | rfl | (simp; done) | (simp [*]; done), by repeat (first | exact Drawn0.refl _ | apply Drawn0.step)⟩
        ·rw [if_neg c11] at H
         have c11b0 : (a0 == 244) = false := beq_eq_false_iff_ne.mpr c11
         have c11b1 : (a0 != 244) = true := bne_iff_ne.mpr c11
         simp only [Option.some.injEq, Prod.mk.injEq] at H
         obtain ⟨rfl, rfl, rfl, rfl⟩ := H
         go_wp2
         refine bodyPost_ret (results_list (rs := [.tmp 2, .tmp 3, .tmp 4, .tmp 5]) rfl (by simp) (.tmp (.tmp (.tmp (.tmp .nil))))) rfl ?_
         exact ⟨by first | rfl | (simp; done) | (simp [*]; done), by repeat (first | exact Drawn0.refl _ | apply Drawn0.step)⟩
end Go.Proofs.YtiggjbclbdikmaaDoor.X
namespace Go.Proofs.YtiggjbclbdikmaaDoor.X
open Go.RowKit Go.Proofs.YtiggjbclbdikmaaDoorW.PrintWords Go.Proofs.YtiggjbclbdikmaaDoorW.PrintLast Go.Proofs.YtiggjbclbdikmaaDoorW.PrintMore
attribute [local go_sem] max2_int min2_int max_two min_two max_three min_three max_four min_four   
set_option linter.unusedVariables false
set_option linter.unusedSimpArgs false
def utf_one.l0 : Nat → List Int → Int → Int → Int → Int → Int → Option (Int × Int × Bool)
 | 0, _, _, _, _, _, _ => none
 | k + 1, x0, x2, x5, x6, x7, x8 => if x8 < x5 then (if x8 = (x0.length : Int) then (some (65533, x8, true)) else (if 0 ≤ x8 then (if x8 < (x0.length : Int) then (if (rd x0 x8) < x6 then (some (65533, x8, false)) else (if (rd x0 x8) > x7 then (some (65533, x8, false)) else (utf_one.l0 k x0 (Go.bits .or .i32 (wrap32 (x2 * 64)) (wrap32 (Go.bits .and .u8 (rd x0 x8) 63))) x5 128 191 (wrap64 (x8 + 1))))) else (none)) else (none))) else (some (x2, x5, false))
def utf_one.f (k : Nat) (l0 : List Int) : Option (Int × Int × Bool) := if 0 < (l0.length : Int) then ((utf_lead.f k (rd l0 0)).bind fun bt470 => (if bt470.1 = 0 then (some (65533, 1, false)) else (utf_one.l0 k l0 bt470.2.1 bt470.1 bt470.2.2.1 bt470.2.2.2 1))) else (none)
theorem utf_one.mono_l : ∀ k, (∀ y0 y1 y2 y3 y4 y5, LeO (utf_one.l0 k y0 y1 y2 y3 y4 y5) (utf_one.l0 (k + 1) y0 y1 y2 y3 y4 y5))
 | 0 => fun _ _ _ _ _ _ r h => by simp [utf_one.l0] at h
 | k + 1 => by
  have ih0 := utf_one.mono_l k
  ·intro y0 y1 y2 y3 y4 y5
   unfold utf_one.l0
   repeat' first
   | (with_reducible exact ih0 _ _ _ _ _ _)
   | (with_reducible exact utf_lead.mono _ _)
   | (with_reducible exact LeO.refl _)
   | (with_reducible exact LeO.none _)
   | (with_reducible refine LeO.ite ?_ ?_)
   | (with_reducible refine LeO.bind ?_ (fun _ => ?_))
   | exact ih0 _ _ _ _ _ _
   | exact utf_lead.mono _ _
   | exact LeO.none _
   | refine LeO.ite ?_ ?_
   | refine LeO.bind ?_ (fun _ => ?_)
theorem utf_one.mono : ∀ a0 k, LeO (utf_one.f k a0) (utf_one.f (k + 1) a0) := by
 intro a0 k
 have ih0 := utf_one.mono_l k
 unfold utf_one.f
 repeat' first
   | (with_reducible exact ih0 _ _ _ _ _ _)
   | (with_reducible exact utf_lead.mono _ _)
   | (with_reducible exact LeO.refl _)
   | (with_reducible exact LeO.none _)
   | (with_reducible refine LeO.ite ?_ ?_)
   | (with_reducible refine LeO.bind ?_ (fun _ => ?_))
   | exact ih0 _ _ _ _ _ _
   | exact utf_lead.mono _ _
   | exact LeO.none _
   | refine LeO.ite ?_ ?_
   | refine LeO.bind ?_ (fun _ => ?_)
set_option maxHeartbeats 8000000 in
set_option maxRecDepth 100000 in
theorem utf_one.calls (k : Nat) (A0 : Option Addr) (c0 : Nat) (l0 : List Int) (r1 : Int) (r2 : Int) (r3 : Bool) (w : World) (hr0 : Kd.C (Kd.int .u8) w A0 l0.length l0) (hc0 : l0.length ≤ c0) (h : utf_one.f k l0 = some (r1, r2, r3)) :
  Calls Tryd.prog 88 #[.slice A0 l0.length c0] w fun e w' => e = .returned (.tuple #[.int .i32 r1, .int .i64 r2, .bool r3]) ∧ Drawn0 w w' := by
 have HR0 := Aside0.mk hr0
 have HC0 := Aside0.mk hc0
 clear hr0 hc0
 have H : (if 0 < (l0.length : Int) then ((utf_lead.f k (rd l0 0)).bind fun bt470 => (if bt470.1 = 0 then (some (65533, 1, false)) else (utf_one.l0 k l0 bt470.2.1 bt470.1 bt470.2.2.1 bt470.2.2.2 1))) else (none)) = some (r1, r2, r3) := h
 clear h
 by_cases c2 : 0 < (l0.length : Int)
 ·rw [if_pos c2] at H
  have c2b0 : decide (0 < (l0.length : Int)) = true := decide_eq_true c2
  have c2b1 : decide (0 < l0.length) = true := decide_eq_true (by omega)
  clear c2
  replace H := Option.bind_eq_some_iff.mp H
  obtain ⟨⟨t470, t471, t472, t473⟩, A30, H⟩ := H
  replace H : (if t470 = 0 then (some (65533, 1, false)) else (utf_one.l0 k l0 t471 t470 t472 t473 1)) = some (r1, r2, r3) := H
  have A3 := Aside0.mk A30
  clear A30
  by_cases c4 : t470 = 0
  ·rw [if_pos c4] at H
   have c4b0 : (t470 == 0) = true := beq_iff_eq.mpr c4
   have c4b1 : (t470 != 0) = false := bne_eq_false_iff_eq.mpr c4
   clear c4
   simp only [Option.some.injEq, Prod.mk.injEq] at H
   obtain ⟨rfl, rfl, rfl⟩ := H
   have p469 : 0 ≤ (0 : Int) := (by omega)
   have q469 : 0 < (l0.length : Int) := of_decide_eq_true (by first | (with_reducible assumption) | assumption)
   obtain ⟨ad469, e469, hx469_0⟩ := Kd.at_int HR0.out 0 p469 q469
   cases e469
   have qi469 : (0 < l0.length) = True := eq_true (by omega)
   (try rw [show ((0 : Int)).toNat = 0 from rfl] at hx469_0)
   (try rw [Addr.add_zero'] at hx469_0)
   replace p469 := eq_true p469
   replace q469 := eq_true q469
   go_enter Tryd.func88, Tryd.ntmps88
   go_wp2_with (first | ((with_reducible refine gate_callee (f := 95) rfl ?_); refine goesL_ (some 13) rfl rfl Tryd.func95 (by kernel_rfl) rfl #[.int .u8 (rd l0 0)] rfl (by (try simp only [List.map_toArray, List.map_cons, List.map_nil]); first | done | rfl | (simp only [List.length_drop, List.length_take]; rfl)) ?_; (with_reducible refine (utf_lead.calls k (rd l0 0) t470 t471 t472 t473 _ A3.out).mono ?_); rintro e w' ⟨rfl, ⟨nd, rfl⟩⟩; refine ⟨_, rfl, ?_⟩))
   go_ret3
   exact ⟨by first | rfl | (simp; done) | (simp [*]; done), by repeat (first | exact Drawn0.refl _ | apply Drawn0.step)⟩
  ·rw [if_neg c4] at H
   have c4b0 : (t470 == 0) = false := beq_eq_false_iff_ne.mpr c4
   have c4b1 : (t470 != 0) = true := bne_iff_ne.mpr c4
   have H' := Aside0.mk H
   clear H
   have p469 : 0 ≤ (0 : Int) := (by omega)
   have q469 : 0 < (l0.length : Int) := of_decide_eq_true (by first | (with_reducible assumption) | assumption)
   obtain ⟨ad469, e469, hx469_0⟩ := Kd.at_int HR0.out 0 p469 q469
   cases e469
   have qi469 : (0 < l0.length) = True := eq_true (by omega)
   (try rw [show ((0 : Int)).toNat = 0 from rfl] at hx469_0)
   (try rw [Addr.add_zero'] at hx469_0)
   replace p469 := eq_true p469
   replace q469 := eq_true q469
   go_enter Tryd.func88, Tryd.ntmps88
   go_wp2_with (first | ((with_reducible refine gate_callee (f := 95) rfl ?_); refine goesL_ (some 13) rfl rfl Tryd.func95 (by kernel_rfl) rfl #[.int .u8 (rd l0 0)] rfl (by (try simp only [List.map_toArray, List.map_cons, List.map_nil]); first | done | rfl | (simp only [List.length_drop, List.length_take]; rfl)) ?_; (with_reducible refine (utf_lead.calls k (rd l0 0) t470 t471 t472 t473 _ A3.out).mono ?_); rintro e w' ⟨rfl, ⟨nd, rfl⟩⟩; refine ⟨_, rfl, ?_⟩))
   go_loopg [2, 6, 7, 8] k (fun kq v2 v6 v7 v8 w' => ∃ (x2_1 : Int) (x6_1 : Int) (x7_1 : Int) (x8_1 : Int), v2 = .int .i32 x2_1 ∧ v6 = .int .u8 x6_1 ∧ v7 = .int .u8 x7_1 ∧ v8 = .int .i64 x8_1 ∧ Aside0 (utf_one.l0 kq l0 x2_1 t470 x6_1 x7_1 x8_1 = some (r1, r2, r3)) ∧ Aside0 (kq ≤ k) ∧ Drawn0 w w')
   case atStart => exact ⟨(t471), (t472), (t473), (1), (by first | rfl | (simp; done) | (simp [*]; done)), (by first | rfl | (simp; done) | (simp [*]; done)), (by first | rfl | (simp; done) | (simp [*]; done)), (by first | rfl | (simp; done) | (simp [*]; done)), H', ⟨Nat.le_refl _⟩, by repeat (first | exact Drawn0.refl _ | apply Drawn0.step)⟩
   case round =>
    clear H'
    try clear c2
    try clear c2b0
    try clear c2b1
    try clear p2
    try clear c4
    try clear c4b0
    try clear c4b1
    try clear p4
    try clear q4
    try clear hx4
    try clear qi4
    try clear hx469_0
    try clear p469
    try clear q469
    obtain ⟨x2_1, x6_1, x7_1, x8_1, rfl, rfl, rfl, rfl, HA, HK1, ⟨m1, rfl⟩⟩ := hrel
    cases gk with
    | zero => exact absurd HA.out (by simp [utf_one.l0])
    | succ k1 =>
     have H := HA.out
     clear HA
     simp only [utf_one.l0] at H
     by_cases c5 : x8_1 < t470
     ·rw [if_pos c5] at H
      have c5b0 : decide (x8_1 < t470) = true := decide_eq_true c5
      clear c5
      by_cases c6 : x8_1 = (l0.length : Int)
      ·rw [if_pos c6] at H
       have c6b0 : (x8_1 == (l0.length : Int)) = true := beq_iff_eq.mpr c6
       have c6b1 : (x8_1 != (l0.length : Int)) = false := bne_eq_false_iff_eq.mpr c6
       clear c6
       simp only [Option.some.injEq, Prod.mk.injEq] at H
       obtain ⟨rfl, rfl, rfl⟩ := H
       go_wp2
       go_ret3
       exact ⟨by first | rfl | (simp; done) | (simp [*]; done), by repeat (first | exact Drawn0.refl _ | apply Drawn0.step)⟩
      ·rw [if_neg c6] at H
       have c6b0 : (x8_1 == (l0.length : Int)) = false := beq_eq_false_iff_ne.mpr c6
       have c6b1 : (x8_1 != (l0.length : Int)) = true := bne_iff_ne.mpr c6
       by_cases c7 : 0 ≤ x8_1
       ·rw [if_pos c7] at H
        have c7b0 : decide (0 ≤ x8_1) = true := decide_eq_true c7
        clear c7
        by_cases c8 : x8_1 < (l0.length : Int)
        ·rw [if_pos c8] at H
         have c8b0 : decide (x8_1 < (l0.length : Int)) = true := decide_eq_true c8
         clear c8
         by_cases c9 : (rd l0 x8_1) < x6_1
         ·rw [if_pos c9] at H
          have c9b0 : decide ((rd l0 x8_1) < x6_1) = true := decide_eq_true c9
          clear c9
          simp only [Option.some.injEq, Prod.mk.injEq] at H
          obtain ⟨rfl, rfl, rfl⟩ := H
          have p474 : 0 ≤ (x8_1 : Int) := of_decide_eq_true (by first | (with_reducible assumption) | assumption)
          have q474 : x8_1 < (l0.length : Int) := of_decide_eq_true (by first | (with_reducible assumption) | assumption)
          obtain ⟨ad474, e474, hx474_0⟩ := Kd.at_int HR0.out x8_1 p474 q474
          obtain rfl : ad469 = ad474 := (by injection e474)
          replace p474 := eq_true p474
          replace q474 := eq_true q474
          go_wp2
          go_ret3
          exact ⟨by first | rfl | (simp; done) | (simp [*]; done), by repeat (first | exact Drawn0.refl _ | apply Drawn0.step)⟩
         ·rw [if_neg c9] at H
          have c9b0 : decide ((rd l0 x8_1) < x6_1) = false := decide_eq_false c9
          clear c9
          by_cases c10 : (rd l0 x8_1) > x7_1
          ·rw [if_pos c10] at H
           have c10b0 : decide (x7_1 < (rd l0 x8_1)) = true := decide_eq_true c10
           clear c10
           simp only [Option.some.injEq, Prod.mk.injEq] at H
           obtain ⟨rfl, rfl, rfl⟩ := H
           have p474 : 0 ≤ (x8_1 : Int) := of_decide_eq_true (by first | (with_reducible assumption) | assumption)
           have q474 : x8_1 < (l0.length : Int) := of_decide_eq_true (by first | (with_reducible assumption) | assumption)
           obtain ⟨ad474, e474, hx474_0⟩ := Kd.at_int HR0.out x8_1 p474 q474
           obtain rfl : ad469 = ad474 := (by injection e474)
           replace p474 := eq_true p474
           replace q474 := eq_true q474
           have p475 : 0 ≤ (x8_1 : Int) := of_decide_eq_true (by first | (with_reducible assumption) | assumption)
           have q475 : x8_1 < (l0.length : Int) := of_decide_eq_true (by first | (with_reducible assumption) | assumption)
           obtain ⟨ad475, e475, hx475_0⟩ := Kd.at_int HR0.out x8_1 p475 q475
           obtain rfl : ad469 = ad475 := (by injection e475)
           replace p475 := eq_true p475
           replace q475 := eq_true q475
           go_wp2
           go_ret3
           exact ⟨by first | rfl | (simp; done) | (simp [*]; done), by repeat (first | exact Drawn0.refl _ | apply Drawn0.step)⟩
          ·rw [if_neg c10] at H
           have c10b0 : decide (x7_1 < (rd l0 x8_1)) = false := decide_eq_false c10
           clear c10
           have H' := Aside0.mk H
           clear H
           have p474 : 0 ≤ (x8_1 : Int) := of_decide_eq_true (by first | (with_reducible assumption) | assumption)
           have q474 : x8_1 < (l0.length : Int) := of_decide_eq_true (by first | (with_reducible assumption) | assumption)
           obtain ⟨ad474, e474, hx474_0⟩ := Kd.at_int HR0.out x8_1 p474 q474
           obtain rfl : ad469 = ad474 := (by injection e474)
           replace p474 := eq_true p474
           replace q474 := eq_true q474
           have p475 : 0 ≤ (x8_1 : Int) := of_decide_eq_true (by first | (with_reducible assumption) | assumption)
           have q475 : x8_1 < (l0.length : Int) := of_decide_eq_true (by first | (with_reducible assumption) | assumption)
           obtain ⟨ad475, e475, hx475_0⟩ := Kd.at_int HR0.out x8_1 p475 q475
           obtain rfl : ad469 = ad475 := (by injection e475)
           replace p475 := eq_true p475
           replace q475 := eq_true q475
           have p476 : 0 ≤ (x8_1 : Int) := of_decide_eq_true (by first | (with_reducible assumption) | assumption)
           have q476 : x8_1 < (l0.length : Int) := of_decide_eq_true (by first | (with_reducible assumption) | assumption)
           obtain ⟨ad476, e476, hx476_0⟩ := Kd.at_int HR0.out x8_1 p476 q476
           obtain rfl : ad469 = ad476 := (by injection e476)
           replace p476 := eq_true p476
           replace q476 := eq_true q476
           go_wp2
           go_roundg k1
           case measure => have := HK1.out; omega
           case rel => exact ⟨(Go.bits .or .i32 (wrap32 (x2_1 * 64)) (wrap32 (Go.bits .and .u8 (rd l0 x8_1) 63))), (128), (191), (wrap64 (x8_1 + 1)), (by first | rfl | (simp; done) | (simp [*]; done)), (by first | rfl | (simp; done) | (simp [*]; done)), (by first | rfl | (simp; done) | (simp [*]; done)), (by first | rfl | (simp; done) | (simp [*]; done)), H', ⟨by have := HK1.out; omega⟩, by repeat (first | exact Drawn0.refl _ | apply Drawn0.step)⟩
        ·rw [if_neg c8] at H
         exact absurd H (by simp)
       ·rw [if_neg c7] at H
        exact absurd H (by simp)
     ·rw [if_neg c5] at H
      have c5b0 : decide (x8_1 < t470) = false := decide_eq_false c5
      clear c5
      simp only [Option.some.injEq, Prod.mk.injEq] at H
      obtain ⟨rfl, rfl, rfl⟩ := H
      go_wp2
      go_ret3
      exact ⟨by first | rfl | (simp; done) | (simp [*]; done), by repeat (first | exact Drawn0.refl _ | apply Drawn0.step)⟩
 ·rw [if_neg c2] at H
  exact absurd H (by simp)
end Go.Proofs.YtiggjbclbdikmaaDoor.X
namespace Go.Proofs.YtiggjbclbdikmaaDoor.X
open Go.RowKit Go.Proofs.YtiggjbclbdikmaaDoorW.PrintWords Go.Proofs.YtiggjbclbdikmaaDoorW.PrintLast Go.Proofs.YtiggjbclbdikmaaDoorW.PrintMore
attribute [local go_sem] max2_int min2_int max_two min_two max_three min_three max_four min_four   
set_option linter.unusedVariables false
set_option linter.unusedSimpArgs false
mutual
def tremaref01_row.j0 : Nat → Int → Bool → Option (List Int × Bool)
 | 0, _, _ => none
 | k + 1, x0, x7 => if x7 = true then (some ((([128, 191] : List Int)), true)) else (if x0 = 224 then (some ((([160, 191, 128, 191] : List Int)), true)) else (if x0 = 237 then (some ((([128, 159, 128, 191] : List Int)), true)) else (if x0 ≥ 225 then (tremaref01_row.j1 k x0 (decide (x0 ≤ 239))) else (tremaref01_row.j1 k x0 false))))
def tremaref01_row.j1 : Nat → Int → Bool → Option (List Int × Bool)
 | 0, _, _ => none
 | k + 1, x0, x23 => if x23 = true then (some ((([128, 191, 128, 191] : List Int)), true)) else (if x0 = 240 then (some ((([144, 191, 128, 191, 128, 191] : List Int)), true)) else (if x0 ≥ 241 then (tremaref01_row.j2 k x0 (decide (x0 ≤ 243))) else (tremaref01_row.j2 k x0 false)))
def tremaref01_row.j2 : Nat → Int → Bool → Option (List Int × Bool)
 | 0, _, _ => none
 | k + 1, x0, x35 => if x35 = true then (some ((([128, 191, 128, 191, 128, 191] : List Int)), true)) else (if x0 = 244 then (some ((([128, 143, 128, 191, 128, 191] : List Int)), true)) else (some (([] : List Int), false)))
end
def tremaref01_row.f (k : Nat) (a0 : Int) : Option (List Int × Bool) := if a0 ≤ 127 then (some (([] : List Int), true)) else (if a0 ≥ 194 then (tremaref01_row.j0 k a0 (decide (a0 ≤ 223))) else (tremaref01_row.j0 k a0 false))
theorem tremaref01_row.mono_l : ∀ k, (∀ y0 y1, LeO (tremaref01_row.j0 k y0 y1) (tremaref01_row.j0 (k + 1) y0 y1)) ∧ (∀ y0 y1, LeO (tremaref01_row.j1 k y0 y1) (tremaref01_row.j1 (k + 1) y0 y1)) ∧ (∀ y0 y1, LeO (tremaref01_row.j2 k y0 y1) (tremaref01_row.j2 (k + 1) y0 y1))
 | 0 => ⟨fun _ _ r h => by simp [tremaref01_row.j0] at h, fun _ _ r h => by simp [tremaref01_row.j1] at h, fun _ _ r h => by simp [tremaref01_row.j2] at h⟩
 | k + 1 => by
  obtain ⟨ih0, ih1, ih2⟩ := tremaref01_row.mono_l k
  refine ⟨?_, ?_, ?_⟩
  ·intro y0 y1
   unfold tremaref01_row.j0
   repeat' first
   | (with_reducible exact ih0 _ _)
   | (with_reducible exact ih1 _ _)
   | (with_reducible exact ih2 _ _)
   | (with_reducible exact LeO.refl _)
   | (with_reducible exact LeO.none _)
   | (with_reducible refine LeO.ite ?_ ?_)
   | (with_reducible refine LeO.bind ?_ (fun _ => ?_))
   | exact ih0 _ _
   | exact ih1 _ _
   | exact ih2 _ _
   | exact LeO.none _
   | refine LeO.ite ?_ ?_
   | refine LeO.bind ?_ (fun _ => ?_)
  ·intro y0 y1
   unfold tremaref01_row.j1
   repeat' first
   | (with_reducible exact ih0 _ _)
   | (with_reducible exact ih1 _ _)
   | (with_reducible exact ih2 _ _)
   | (with_reducible exact LeO.refl _)
   | (with_reducible exact LeO.none _)
   | (with_reducible refine LeO.ite ?_ ?_)
   | (with_reducible refine LeO.bind ?_ (fun _ => ?_))
   | exact ih0 _ _
   | exact ih1 _ _
   | exact ih2 _ _
   | exact LeO.none _
   | refine LeO.ite ?_ ?_
   | refine LeO.bind ?_ (fun _ => ?_)
  ·intro y0 y1
   unfold tremaref01_row.j2
   repeat' first
   | (with_reducible exact ih0 _ _)
   | (with_reducible exact ih1 _ _)
   | (with_reducible exact ih2 _ _)
   | (with_reducible exact LeO.refl _)
   | (with_reducible exact LeO.none _)
   | (with_reducible refine LeO.ite ?_ ?_)
   | (with_reducible refine LeO.bind ?_ (fun _ => ?_))
   | exact ih0 _ _
   | exact ih1 _ _
   | exact ih2 _ _
   | exact LeO.none _
   | refine LeO.ite ?_ ?_
   | refine LeO.bind ?_ (fun _ => ?_)
theorem tremaref01_row.mono : ∀ a0 k, LeO (tremaref01_row.f k a0) (tremaref01_row.f (k + 1) a0) := by
 intro a0 k
 obtain ⟨ih0, ih1, ih2⟩ := tremaref01_row.mono_l k
 unfold tremaref01_row.f
 repeat' first
   | (with_reducible exact ih0 _ _)
   | (with_reducible exact ih1 _ _)
   | (with_reducible exact ih2 _ _)
   | (with_reducible exact LeO.refl _)
   | (with_reducible exact LeO.none _)
   | (with_reducible refine LeO.ite ?_ ?_)
   | (with_reducible refine LeO.bind ?_ (fun _ => ?_))
   | exact ih0 _ _
   | exact ih1 _ _
   | exact ih2 _ _
   | exact LeO.none _
   | refine LeO.ite ?_ ?_
   | refine LeO.bind ?_ (fun _ => ?_)
set_option maxHeartbeats 8000000 in
set_option maxRecDepth 100000 in
theorem tremaref01_row.calls (k : Nat) (a0 : Int) (r1 : List Int) (r2 : Bool) (w : World) (h : tremaref01_row.f k a0 = some (r1, r2)) :
  Calls Tryd.prog 93 #[.int .u8 a0] w fun e w' => ∃ v0_ : Value, e = .returned (.tuple #[v0_, .bool r2]) ∧ Kd.R (Kd.int .u8) 5 w' w.heap.size (fun _ => True) v0_ r1 ∧ Below w.heap.size w w' := by
 have HB := Aside0.mk (Below.refl w.heap.size w)
 have H : (if a0 ≤ 127 then (some (([] : List Int), true)) else (if a0 ≥ 194 then (tremaref01_row.j0 k a0 (decide (a0 ≤ 223))) else (tremaref01_row.j0 k a0 false))) = some (r1, r2) := h
 clear h
 by_cases c2 : a0 ≤ 127
 ·rw [if_pos c2] at H
  have c2b0 : decide (a0 ≤ 127) = true := decide_eq_true c2
  clear c2
  simp only [Option.some.injEq, Prod.mk.injEq] at H
  obtain ⟨rfl, rfl⟩ := H
  go_enter Tryd.func93, Tryd.ntmps93
  go_wp2
  go_ret2
  exact ⟨_, by first | rfl | (simp [errW_none, errW_some] <;> rfl) | (simp [*, errW_none, errW_some] <;> rfl), by first | exact Kd.R_nil _ _ _ _ _ | exact Kd.N_nil _ _ _ _ _ | exact Kd.V_nil _ _ _ _ _ | exact Kd.Q_nil _ _ _ _ _ | exact Kd.S_nil _ _ _ _ _, by repeat (first | (with_reducible first | exact HB.out | apply below_alloc | apply pw_below_drewN | apply below_drew1) | exact HB.out)⟩
 ·rw [if_neg c2] at H
  have c2b0 : decide (a0 ≤ 127) = false := decide_eq_false c2
  clear c2
  have HC3 := Aside0.mk H
  clear H
  go_enter Tryd.func93, Tryd.ntmps93
  go_upto_region 3 with (fail)
  go_cut [7] (fun v7 wc => ∃ (kq : Nat) (x7_2 : Bool), v7 = .bool x7_2 ∧ Aside0 (tremaref01_row.j0 kq a0 x7_2 = some (r1, r2)) ∧ Aside0 (kq ≤ k) ∧ Aside0 (Below w.heap.size w wc))
  case first =>
   have H := HC3.out
   clear HC3
   by_cases c4 : a0 ≥ 194
   ·rw [if_pos c4] at H
    have c4b0 : decide (194 ≤ a0) = true := decide_eq_true c4
    clear c4
    (first | rw [c4b0] | (simp only [i64_w, i32_w]; rw [c4b0]) | skip)
    have H' := Aside0.mk H
    clear H
    go_wp2
    go_meet
    case rel => exact ⟨_, (decide (a0 ≤ 223)), (by first | rfl | (simp; done) | (simp [*]; done)), H', ⟨by first | omega | exact Nat.le_refl _⟩, ⟨by repeat (first | (with_reducible first | exact HB.out | apply below_alloc | apply pw_below_drewN | apply below_drew1) | exact HB.out)⟩⟩
   ·rw [if_neg c4] at H
    have c4b0 : decide (194 ≤ a0) = false := decide_eq_false c4
    clear c4
    (first | rw [c4b0] | (simp only [i64_w, i32_w]; rw [c4b0]) | skip)
    have H' := Aside0.mk H
    clear H
    go_wp2
    go_meet
    case rel => exact ⟨_, (false), (by first | rfl | (simp; done) | (simp [*]; done)), H', ⟨by first | omega | exact Nat.le_refl _⟩, ⟨by repeat (first | (with_reducible first | exact HB.out | apply below_alloc | apply pw_below_drewN | apply below_drew1) | exact HB.out)⟩⟩
  case rest =>
   clear HC3
   try clear c2
   try clear c2b0
   try clear p2
   try clear c4
   try clear c4b0
   obtain ⟨kq, x7_2, rfl, HA, HJ2, HB⟩ := hcut
   cases kq with
   | zero => exact absurd HA.out (by simp [tremaref01_row.j0])
   | succ kj2 =>
    have H := HA.out
    clear HA
    simp only [tremaref01_row.j0] at H
    by_cases c5 : x7_2 = true
    ·subst c5
     have H1 : (some ((([128, 191] : List Int)), true)) = some (r1, r2) := by rw [if_pos rfl] at H; exact H
     clear H
     have H := H1
     clear H1
     obtain ⟨y234, hy234⟩ : ∃ y_ : List Int, y_ = (([128, 191] : List Int)) := ⟨_, rfl⟩
     replace H : (some (y234, true)) = some (r1, r2) := by first | (rw [hy234]; with_reducible exact H) | (have H2_ := (Option.bind_some _ _).symm.trans H; rw [hy234]; with_reducible exact H2_) | (have H2_ := (Option.bind_some _ _).symm.trans H; with_reducible exact H2_) | with_reducible exact H | (rw [hy234]; exact H) | exact H
     have Ny234 := Aside0.mk hy234
     clear hy234
     simp only [Option.some.injEq, Prod.mk.injEq] at H
     obtain ⟨rfl, rfl⟩ := H
     go_wp2_with (first | ((with_reducible refine gate_dst (N := 14) rfl ?_); refine Kd.R_lit (Kd.int .u8) _ 5 ?hg (N := 14) ?hd (xs := ([128, 191] : List Int)) (inner := [.int .u8 128, .int .u8 191]) (ok := fun _ => True) (okp := fun _ => True) ?hr ?hp (fun _ hk => hk) trivial (Below.refl _ _) (Nat.le_refl _) (by simp) ?_; (case hd => rfl); (case hg => rfl); (case hr => first | (go_simp; done) | (go_simp; rfl)); (case hp => exact (Reps.one (show Kd.M (Kd.int .u8) _ _ _ 128 [.int .u8 128] from rfl) (Reps.one (show Kd.M (Kd.int .u8) _ _ _ 191 [.int .u8 191] from rfl) (Reps.none _ _)))); intro v235 w6 ho7 hb hg_ hnew_; clear hg_ hnew_; (first | rw [← Ny234.out] at ho7 | (simp only [Int.reduceToNat] at ho7; rw [← Ny234.out] at ho7)); have n0_ := Aside0.mk (Kd.R_lower ho7 (below_size (by repeat (first | (with_reducible first | exact HB.out | apply below_alloc | apply pw_below_drewN | apply below_drew1) | exact HB.out)))); have n1_ := Aside0.mk (below_step (by repeat (first | (with_reducible first | exact HB.out | apply below_alloc | apply pw_below_drewN | apply below_drew1) | exact HB.out)) hb); clear HB; have HO236 := n0_; have HB := n1_; clear n0_ n1_; clear hb ho7))
     go_ret2
     exact ⟨_, by first | rfl | (simp [errW_none, errW_some] <;> rfl) | (simp [*, errW_none, errW_some] <;> rfl), by (with_reducible repeat (first | apply Kd.R_alloc | apply Kd.R_drewN | apply Kd.R_drew)); exact HO236.out, by repeat (first | (with_reducible first | exact HB.out | apply below_alloc | apply pw_below_drewN | apply below_drew1) | exact HB.out)⟩
    ·replace c5 := Bool.eq_false_iff.mpr c5
     subst c5
     have H1 : (if a0 = 224 then (some ((([160, 191, 128, 191] : List Int)), true)) else (if a0 = 237 then (some ((([128, 159, 128, 191] : List Int)), true)) else (if a0 ≥ 225 then (tremaref01_row.j1 kj2 a0 (decide (a0 ≤ 239))) else (tremaref01_row.j1 kj2 a0 false)))) = some (r1, r2) := by rw [if_neg (show ¬ (false = true) by decide)] at H; exact H
     clear H
     have H := H1
     clear H1
     by_cases c8 : a0 = 224
     ·rw [if_pos c8] at H
      have c8b0 : (a0 == 224) = true := beq_iff_eq.mpr c8
      have c8b1 : (a0 != 224) = false := bne_eq_false_iff_eq.mpr c8
      clear c8
      obtain ⟨y237, hy237⟩ : ∃ y_ : List Int, y_ = (([160, 191, 128, 191] : List Int)) := ⟨_, rfl⟩
      replace H : (some (y237, true)) = some (r1, r2) := by first | (rw [hy237]; with_reducible exact H) | (have H2_ := (Option.bind_some _ _).symm.trans H; rw [hy237]; with_reducible exact H2_) | (have H2_ := (Option.bind_some _ _).symm.trans H; with_reducible exact H2_) | with_reducible exact H | (rw [hy237]; exact H) | exact H
      have Ny237 := Aside0.mk hy237
      clear hy237
      simp only [Option.some.injEq, Prod.mk.injEq] at H
      obtain ⟨rfl, rfl⟩ := H
      go_wp2_with (first | ((with_reducible refine gate_dst (N := 18) rfl ?_); refine Kd.R_lit (Kd.int .u8) _ 5 ?hg (N := 18) ?hd (xs := ([160, 191, 128, 191] : List Int)) (inner := [.int .u8 160, .int .u8 191, .int .u8 128, .int .u8 191]) (ok := fun _ => True) (okp := fun _ => True) ?hr ?hp (fun _ hk => hk) trivial (Below.refl _ _) (Nat.le_refl _) (by simp) ?_; (case hd => rfl); (case hg => rfl); (case hr => first | (go_simp; done) | (go_simp; rfl)); (case hp => exact (Reps.one (show Kd.M (Kd.int .u8) _ _ _ 160 [.int .u8 160] from rfl) (Reps.one (show Kd.M (Kd.int .u8) _ _ _ 191 [.int .u8 191] from rfl) (Reps.one (show Kd.M (Kd.int .u8) _ _ _ 128 [.int .u8 128] from rfl) (Reps.one (show Kd.M (Kd.int .u8) _ _ _ 191 [.int .u8 191] from rfl) (Reps.none _ _)))))); intro v238 w9 ho10 hb hg_ hnew_; clear hg_ hnew_; (first | rw [← Ny237.out] at ho10 | (simp only [Int.reduceToNat] at ho10; rw [← Ny237.out] at ho10)); have n0_ := Aside0.mk (Kd.R_lower ho10 (below_size (by repeat (first | (with_reducible first | exact HB.out | apply below_alloc | apply pw_below_drewN | apply below_drew1) | exact HB.out)))); have n1_ := Aside0.mk (below_step (by repeat (first | (with_reducible first | exact HB.out | apply below_alloc | apply pw_below_drewN | apply below_drew1) | exact HB.out)) hb); clear HB; have HO239 := n0_; have HB := n1_; clear n0_ n1_; clear hb ho10))
      go_ret2
      exact ⟨_, by first | rfl | (simp [errW_none, errW_some] <;> rfl) | (simp [*, errW_none, errW_some] <;> rfl), by (with_reducible repeat (first | apply Kd.R_alloc | apply Kd.R_drewN | apply Kd.R_drew)); exact HO239.out, by repeat (first | (with_reducible first | exact HB.out | apply below_alloc | apply pw_below_drewN | apply below_drew1) | exact HB.out)⟩
     ·rw [if_neg c8] at H
      have c8b0 : (a0 == 224) = false := beq_eq_false_iff_ne.mpr c8
      have c8b1 : (a0 != 224) = true := bne_iff_ne.mpr c8
      by_cases c11 : a0 = 237
      ·rw [if_pos c11] at H
       have c11b0 : (a0 == 237) = true := beq_iff_eq.mpr c11
       have c11b1 : (a0 != 237) = false := bne_eq_false_iff_eq.mpr c11
       clear c11
       obtain ⟨y240, hy240⟩ : ∃ y_ : List Int, y_ = (([128, 159, 128, 191] : List Int)) := ⟨_, rfl⟩
       replace H : (some (y240, true)) = some (r1, r2) := by first | (rw [hy240]; with_reducible exact H) | (have H2_ := (Option.bind_some _ _).symm.trans H; rw [hy240]; with_reducible exact H2_) | (have H2_ := (Option.bind_some _ _).symm.trans H; with_reducible exact H2_) | with_reducible exact H | (rw [hy240]; exact H) | exact H
       have Ny240 := Aside0.mk hy240
       clear hy240
       simp only [Option.some.injEq, Prod.mk.injEq] at H
       obtain ⟨rfl, rfl⟩ := H
       go_wp2_with (first | ((with_reducible refine gate_dst (N := 22) rfl ?_); refine Kd.R_lit (Kd.int .u8) _ 5 ?hg (N := 22) ?hd (xs := ([128, 159, 128, 191] : List Int)) (inner := [.int .u8 128, .int .u8 159, .int .u8 128, .int .u8 191]) (ok := fun _ => True) (okp := fun _ => True) ?hr ?hp (fun _ hk => hk) trivial (Below.refl _ _) (Nat.le_refl _) (by simp) ?_; (case hd => rfl); (case hg => rfl); (case hr => first | (go_simp; done) | (go_simp; rfl)); (case hp => exact (Reps.one (show Kd.M (Kd.int .u8) _ _ _ 128 [.int .u8 128] from rfl) (Reps.one (show Kd.M (Kd.int .u8) _ _ _ 159 [.int .u8 159] from rfl) (Reps.one (show Kd.M (Kd.int .u8) _ _ _ 128 [.int .u8 128] from rfl) (Reps.one (show Kd.M (Kd.int .u8) _ _ _ 191 [.int .u8 191] from rfl) (Reps.none _ _)))))); intro v241 w12 ho13 hb hg_ hnew_; clear hg_ hnew_; (first | rw [← Ny240.out] at ho13 | (simp only [Int.reduceToNat] at ho13; rw [← Ny240.out] at ho13)); have n0_ := Aside0.mk (Kd.R_lower ho13 (below_size (by repeat (first | (with_reducible first | exact HB.out | apply below_alloc | apply pw_below_drewN | apply below_drew1) | exact HB.out)))); have n1_ := Aside0.mk (below_step (by repeat (first | (with_reducible first | exact HB.out | apply below_alloc | apply pw_below_drewN | apply below_drew1) | exact HB.out)) hb); clear HB; have HO242 := n0_; have HB := n1_; clear n0_ n1_; clear hb ho13))
       go_ret2
       exact ⟨_, by first | rfl | (simp [errW_none, errW_some] <;> rfl) | (simp [*, errW_none, errW_some] <;> rfl), by (with_reducible repeat (first | apply Kd.R_alloc | apply Kd.R_drewN | apply Kd.R_drew)); exact HO242.out, by repeat (first | (with_reducible first | exact HB.out | apply below_alloc | apply pw_below_drewN | apply below_drew1) | exact HB.out)⟩
      ·rw [if_neg c11] at H
       have c11b0 : (a0 == 237) = false := beq_eq_false_iff_ne.mpr c11
       have c11b1 : (a0 != 237) = true := bne_iff_ne.mpr c11
       have HC14 := Aside0.mk H
       clear H
       go_upto_region 9 with (fail)
       go_cut [23] (fun v23 wc => ∃ (kq : Nat) (x23_13 : Bool), v23 = .bool x23_13 ∧ Aside0 (tremaref01_row.j1 kq a0 x23_13 = some (r1, r2)) ∧ Aside0 (kq ≤ kj2) ∧ Aside0 (Below w.heap.size w wc))
       case first =>
        have H := HC14.out
        clear HC14
        by_cases c15 : a0 ≥ 225
        ·rw [if_pos c15] at H
         have c15b0 : decide (225 ≤ a0) = true := decide_eq_true c15
         clear c15
         (first | rw [c15b0] | (simp only [i64_w, i32_w]; rw [c15b0]) | skip)
         have H' := Aside0.mk H
         clear H
         go_wp2
         go_meet
         case rel => exact ⟨_, (decide (a0 ≤ 239)), (by first | rfl | (simp; done) | (simp [*]; done)), H', ⟨by have := HJ2.out; first | omega | exact Nat.le_refl _⟩, ⟨by repeat (first | (with_reducible first | exact HB.out | apply below_alloc | apply pw_below_drewN | apply below_drew1) | exact HB.out)⟩⟩
        ·rw [if_neg c15] at H
         have c15b0 : decide (225 ≤ a0) = false := decide_eq_false c15
         clear c15
         (first | rw [c15b0] | (simp only [i64_w, i32_w]; rw [c15b0]) | skip)
         have H' := Aside0.mk H
         clear H
         go_wp2
         go_meet
         case rel => exact ⟨_, (false), (by first | rfl | (simp; done) | (simp [*]; done)), H', ⟨by have := HJ2.out; first | omega | exact Nat.le_refl _⟩, ⟨by repeat (first | (with_reducible first | exact HB.out | apply below_alloc | apply pw_below_drewN | apply below_drew1) | exact HB.out)⟩⟩
       case rest =>
        clear HC14
        try clear c1
        try clear c2
        try clear c2b0
        try clear p2
        try clear c4
        try clear c4b0
        try clear c5
        try clear c8
        try clear c8b0
        try clear c8b1
        try clear c9
        try clear c11
        try clear c11b0
        try clear c11b1
        try clear c15
        try clear c15b0
        try clear p2
        obtain ⟨kq, x23_13, rfl, HA, HJ13, HB⟩ := hcut
        cases kq with
        | zero => exact absurd HA.out (by simp [tremaref01_row.j1])
        | succ kj13 =>
         have H := HA.out
         clear HA
         simp only [tremaref01_row.j1] at H
         by_cases c16 : x23_13 = true
         ·subst c16
          have H1 : (some ((([128, 191, 128, 191] : List Int)), true)) = some (r1, r2) := by rw [if_pos rfl] at H; exact H
          clear H
          have H := H1
          clear H1
          obtain ⟨y243, hy243⟩ : ∃ y_ : List Int, y_ = (([128, 191, 128, 191] : List Int)) := ⟨_, rfl⟩
          replace H : (some (y243, true)) = some (r1, r2) := by first | (rw [hy243]; with_reducible exact H) | (have H2_ := (Option.bind_some _ _).symm.trans H; rw [hy243]; with_reducible exact H2_) | (have H2_ := (Option.bind_some _ _).symm.trans H; with_reducible exact H2_) | with_reducible exact H | (rw [hy243]; exact H) | exact H
          have Ny243 := Aside0.mk hy243
          clear hy243
          simp only [Option.some.injEq, Prod.mk.injEq] at H
          obtain ⟨rfl, rfl⟩ := H
          go_wp2_with (first | ((with_reducible refine gate_dst (N := 30) rfl ?_); refine Kd.R_lit (Kd.int .u8) _ 5 ?hg (N := 30) ?hd (xs := ([128, 191, 128, 191] : List Int)) (inner := [.int .u8 128, .int .u8 191, .int .u8 128, .int .u8 191]) (ok := fun _ => True) (okp := fun _ => True) ?hr ?hp (fun _ hk => hk) trivial (Below.refl _ _) (Nat.le_refl _) (by simp) ?_; (case hd => rfl); (case hg => rfl); (case hr => first | (go_simp; done) | (go_simp; rfl)); (case hp => exact (Reps.one (show Kd.M (Kd.int .u8) _ _ _ 128 [.int .u8 128] from rfl) (Reps.one (show Kd.M (Kd.int .u8) _ _ _ 191 [.int .u8 191] from rfl) (Reps.one (show Kd.M (Kd.int .u8) _ _ _ 128 [.int .u8 128] from rfl) (Reps.one (show Kd.M (Kd.int .u8) _ _ _ 191 [.int .u8 191] from rfl) (Reps.none _ _)))))); intro v244 w17 ho18 hb hg_ hnew_; clear hg_ hnew_; (first | rw [← Ny243.out] at ho18 | (simp only [Int.reduceToNat] at ho18; rw [← Ny243.out] at ho18)); have n0_ := Aside0.mk (Kd.R_lower ho18 (below_size (by repeat (first | (with_reducible first | exact HB.out | apply below_alloc | apply pw_below_drewN | apply below_drew1) | exact HB.out)))); have n1_ := Aside0.mk (below_step (by repeat (first | (with_reducible first | exact HB.out | apply below_alloc | apply pw_below_drewN | apply below_drew1) | exact HB.out)) hb); clear HB; have HO245 := n0_; have HB := n1_; clear n0_ n1_; clear hb ho18))
          go_ret2
          exact ⟨_, by first | rfl | (simp [errW_none, errW_some] <;> rfl) | (simp [*, errW_none, errW_some] <;> rfl), by (with_reducible repeat (first | apply Kd.R_alloc | apply Kd.R_drewN | apply Kd.R_drew)); exact HO245.out, by repeat (first | (with_reducible first | exact HB.out | apply below_alloc | apply pw_below_drewN | apply below_drew1) | exact HB.out)⟩
         ·replace c16 := Bool.eq_false_iff.mpr c16
          subst c16
          have H1 : (if a0 = 240 then (some ((([144, 191, 128, 191, 128, 191] : List Int)), true)) else (if a0 ≥ 241 then (tremaref01_row.j2 kj13 a0 (decide (a0 ≤ 243))) else (tremaref01_row.j2 kj13 a0 false))) = some (r1, r2) := by rw [if_neg (show ¬ (false = true) by decide)] at H; exact H
          clear H
          have H := H1
          clear H1
          by_cases c19 : a0 = 240
          ·rw [if_pos c19] at H
           have c19b0 : (a0 == 240) = true := beq_iff_eq.mpr c19
           have c19b1 : (a0 != 240) = false := bne_eq_false_iff_eq.mpr c19
           clear c19
           obtain ⟨y246, hy246⟩ : ∃ y_ : List Int, y_ = (([144, 191, 128, 191, 128, 191] : List Int)) := ⟨_, rfl⟩
           replace H : (some (y246, true)) = some (r1, r2) := by first | (rw [hy246]; with_reducible exact H) | (have H2_ := (Option.bind_some _ _).symm.trans H; rw [hy246]; with_reducible exact H2_) | (have H2_ := (Option.bind_some _ _).symm.trans H; with_reducible exact H2_) | with_reducible exact H | (rw [hy246]; exact H) | exact H
           have Ny246 := Aside0.mk hy246
           clear hy246
           simp only [Option.some.injEq, Prod.mk.injEq] at H
           obtain ⟨rfl, rfl⟩ := H
           go_wp2_with (first | ((with_reducible refine gate_dst (N := 34) rfl ?_); refine Kd.R_lit (Kd.int .u8) _ 5 ?hg (N := 34) ?hd (xs := ([144, 191, 128, 191, 128, 191] : List Int)) (inner := [.int .u8 144, .int .u8 191, .int .u8 128, .int .u8 191, .int .u8 128, .int .u8 191]) (ok := fun _ => True) (okp := fun _ => True) ?hr ?hp (fun _ hk => hk) trivial (Below.refl _ _) (Nat.le_refl _) (by simp) ?_; (case hd => rfl); (case hg => rfl); (case hr => first | (go_simp; done) | (go_simp; rfl)); (case hp => exact (Reps.one (show Kd.M (Kd.int .u8) _ _ _ 144 [.int .u8 144] from rfl) (Reps.one (show Kd.M (Kd.int .u8) _ _ _ 191 [.int .u8 191] from rfl) (Reps.one (show Kd.M (Kd.int .u8) _ _ _ 128 [.int .u8 128] from rfl) (Reps.one (show Kd.M (Kd.int .u8) _ _ _ 191 [.int .u8 191] from rfl) (Reps.one (show Kd.M (Kd.int .u8) _ _ _ 128 [.int .u8 128] from rfl) (Reps.one (show Kd.M (Kd.int .u8) _ _ _ 191 [.int .u8 191] from rfl) (Reps.none _ _)))))))); intro v247 w20 ho21 hb hg_ hnew_; clear hg_ hnew_; (first | rw [← Ny246.out] at ho21 | (simp only [Int.reduceToNat] at ho21; rw [← Ny246.out] at ho21)); have n0_ := Aside0.mk (Kd.R_lower ho21 (below_size (by repeat (first | (with_reducible first | exact HB.out | apply below_alloc | apply pw_below_drewN | apply below_drew1) | exact HB.out)))); have n1_ := Aside0.mk (below_step (by repeat (first | (with_reducible first | exact HB.out | apply below_alloc | apply pw_below_drewN | apply below_drew1) | exact HB.out)) hb); clear HB; have HO248 := n0_; have HB := n1_; clear n0_ n1_; clear hb ho21))
           go_ret2
           exact ⟨_, by first | rfl | (simp [errW_none, errW_some] <;> rfl) | (simp [*, errW_none, errW_some] <;> rfl), by (with_reducible repeat (first | apply Kd.R_alloc | apply Kd.R_drewN | apply Kd.R_drew)); exact HO248.out, by repeat (first | (with_reducible first | exact HB.out | apply below_alloc | apply pw_below_drewN | apply below_drew1) | exact HB.out)⟩
          ·rw [if_neg c19] at H
           have c19b0 : (a0 == 240) = false := beq_eq_false_iff_ne.mpr c19
           have c19b1 : (a0 != 240) = true := bne_iff_ne.mpr c19
           have HC22 := Aside0.mk H
           clear H
           go_upto_region 13 with (fail)
           go_cut [35] (fun v35 wc => ∃ (kq : Nat) (x35_21 : Bool), v35 = .bool x35_21 ∧ Aside0 (tremaref01_row.j2 kq a0 x35_21 = some (r1, r2)) ∧ Aside0 (kq ≤ kj13) ∧ Aside0 (Below w.heap.size w wc))
           case first =>
            have H := HC22.out
            clear HC22
            by_cases c23 : a0 ≥ 241
            ·rw [if_pos c23] at H
             have c23b0 : decide (241 ≤ a0) = true := decide_eq_true c23
             clear c23
             (first | rw [c23b0] | (simp only [i64_w, i32_w]; rw [c23b0]) | skip)
             have H' := Aside0.mk H
             clear H
             go_wp2
             go_meet
             case rel => exact ⟨_, (decide (a0 ≤ 243)), (by first | rfl | (simp; done) | (simp [*]; done)), H', ⟨by have := HJ2.out; have := HJ13.out; first | omega | exact Nat.le_refl _⟩, ⟨by repeat (first | (with_reducible first | exact HB.out | apply below_alloc | apply pw_below_drewN | apply below_drew1) | exact HB.out)⟩⟩
            ·rw [if_neg c23] at H
             have c23b0 : decide (241 ≤ a0) = false := decide_eq_false c23
             clear c23
             (first | rw [c23b0] | (simp only [i64_w, i32_w]; rw [c23b0]) | skip)
             have H' := Aside0.mk H
             clear H
             go_wp2
             go_meet
             case rel => exact ⟨_, (false), (by first | rfl | (simp; done) | (simp [*]; done)), H', ⟨by have := HJ2.out; have := HJ13.out; first | omega | exact Nat.le_refl _⟩, ⟨by repeat (first | (with_reducible first | exact HB.out | apply below_alloc | apply pw_below_drewN | apply below_drew1) | exact HB.out)⟩⟩
           case rest =>
            clear HC22
            try clear c1
            try clear c2
            try clear c2b0
            try clear p2
            try clear c4
            try clear c4b0
            try clear c5
            try clear c8
            try clear c8b0
            try clear c8b1
            try clear c9
            try clear c11
            try clear c11b0
            try clear c11b1
            try clear c15
            try clear c15b0
            try clear c16
            try clear c19
            try clear c19b0
            try clear c19b1
            try clear c23
            try clear c23b0
            try clear p2
            obtain ⟨kq, x35_21, rfl, HA, HJ21, HB⟩ := hcut
            cases kq with
            | zero => exact absurd HA.out (by simp [tremaref01_row.j2])
            | succ kj21 =>
             have H := HA.out
             clear HA
             simp only [tremaref01_row.j2] at H
             by_cases c24 : x35_21 = true
             ·subst c24
              have H1 : (some ((([128, 191, 128, 191, 128, 191] : List Int)), true)) = some (r1, r2) := by rw [if_pos rfl] at H; exact H
              clear H
              have H := H1
              clear H1
              obtain ⟨y249, hy249⟩ : ∃ y_ : List Int, y_ = (([128, 191, 128, 191, 128, 191] : List Int)) := ⟨_, rfl⟩
              replace H : (some (y249, true)) = some (r1, r2) := by first | (rw [hy249]; with_reducible exact H) | (have H2_ := (Option.bind_some _ _).symm.trans H; rw [hy249]; with_reducible exact H2_) | (have H2_ := (Option.bind_some _ _).symm.trans H; with_reducible exact H2_) | with_reducible exact H | (rw [hy249]; exact H) | exact H
              have Ny249 := Aside0.mk hy249
              clear hy249
              simp only [Option.some.injEq, Prod.mk.injEq] at H
              obtain ⟨rfl, rfl⟩ := H
              go_wp2_with (first | ((with_reducible refine gate_dst (N := 42) rfl ?_); refine Kd.R_lit (Kd.int .u8) _ 5 ?hg (N := 42) ?hd (xs := ([128, 191, 128, 191, 128, 191] : List Int)) (inner := [.int .u8 128, .int .u8 191, .int .u8 128, .int .u8 191, .int .u8 128, .int .u8 191]) (ok := fun _ => True) (okp := fun _ => True) ?hr ?hp (fun _ hk => hk) trivial (Below.refl _ _) (Nat.le_refl _) (by simp) ?_; (case hd => rfl); (case hg => rfl); (case hr => first | (go_simp; done) | (go_simp; rfl)); (case hp => exact (Reps.one (show Kd.M (Kd.int .u8) _ _ _ 128 [.int .u8 128] from rfl) (Reps.one (show Kd.M (Kd.int .u8) _ _ _ 191 [.int .u8 191] from rfl) (Reps.one (show Kd.M (Kd.int .u8) _ _ _ 128 [.int .u8 128] from rfl) (Reps.one (show Kd.M (Kd.int .u8) _ _ _ 191 [.int .u8 191] from rfl) (Reps.one (show Kd.M (Kd.int .u8) _ _ _ 128 [.int .u8 128] from rfl) (Reps.one (show Kd.M (Kd.int .u8) _ _ _ 191 [.int .u8 191] from rfl) (Reps.none _ _)))))))); intro v250 w25 ho26 hb hg_ hnew_; clear hg_ hnew_; (first | rw [← Ny249.out] at ho26 | (simp only [Int.reduceToNat] at ho26; rw [← Ny249.out] at ho26)); have n0_ := Aside0.mk (Kd.R_lower ho26 (below_size (by repeat (first | (with_reducible first | exact HB.out | apply below_alloc | apply pw_below_drewN | apply below_drew1) | exact HB.out)))); have n1_ := Aside0.mk (below_step (by repeat (first | (with_reducible first | exact HB.out | apply below_alloc | apply pw_below_drewN | apply below_drew1) | exact HB.out)) hb); clear HB; have HO251 := n0_; have HB := n1_; clear n0_ n1_; clear hb ho26))
              go_ret2
              exact ⟨_, by first | rfl | (simp [errW_none, errW_some] <;> rfl) | (simp [*, errW_none, errW_some] <;> rfl), by (with_reducible repeat (first | apply Kd.R_alloc | apply Kd.R_drewN | apply Kd.R_drew)); exact HO251.out, by repeat (first | (with_reducible first | exact HB.out | apply below_alloc | apply pw_below_drewN | apply below_drew1) | exact HB.out)⟩
             ·replace c24 := Bool.eq_false_iff.mpr c24
              subst c24
              have H1 : (if a0 = 244 then (some ((([128, 143, 128, 191, 128, 191] : List Int)), true)) else (some (([] : List Int), false))) = some (r1, r2) := by rw [if_neg (show ¬ (false = true) by decide)] at H; exact H
              clear H
              have H := H1
              clear H1
              by_cases c27 : a0 = 244
              ·rw [if_pos c27] at H
               have c27b0 : (a0 == 244) = true := beq_iff_eq.mpr c27
               have c27b1 : (a0 != 244) = false := bne_eq_false_iff_eq.mpr c27
               clear c27
               obtain ⟨y252, hy252⟩ : ∃ y_ : List Int, y_ = (([128, 143, 128, 191, 128, 191] : List Int)) := ⟨_, rfl⟩
               replace H : (some (y252, true)) = some (r1, r2) := by first | (rw [hy252]; with_reducible exact H) | (have H2_ := (Option.bind_some _ _).symm.trans H; rw [hy252]; with_reducible exact H2_) | (have H2_ := (Option.bind_some _ _).symm.trans H; with_reducible exact H2_) | with_reducible exact H | (rw [hy252]; exact H) | exact H
               have Ny252 := Aside0.mk hy252
               clear hy252
               simp only [Option.some.injEq, Prod.mk.injEq] at H
               obtain ⟨rfl, rfl⟩ := H
               go_wp2_with (first | ((with_reducible refine gate_dst (N := 46) rfl ?_); refine Kd.R_lit (Kd.int .u8) _ 5 ?hg (N := 46) ?hd (xs := ([128, 143, 128, 191, 128, 191] : List Int)) (inner := [.int .u8 128, .int .u8 143, .int .u8 128, .int .u8 191, .int .u8 128, .int .u8 191]) (ok := fun _ => True) (okp := fun _ => True) ?hr ?hp (fun _ hk => hk) trivial (Below.refl _ _) (Nat.le_refl _) (by simp) ?_; (case hd => rfl); (case hg => rfl); (case hr => first | (go_simp; done) | (go_simp; rfl)); (case hp => exact (Reps.one (show Kd.M (Kd.int .u8) _ _ _ 128 [.int .u8 128] from rfl) (Reps.one (show Kd.M (Kd.int .u8) _ _ _ 143 [.int .u8 143] from rfl) (Reps.one (show Kd.M (Kd.int .u8) _ _ _ 128 [.int .u8 128] from rfl) (Reps.one (show Kd.M (Kd.int .u8) _ _ _ 191 [.int .u8 191] from rfl) (Reps.one (show Kd.M (Kd.int .u8) _ _ _ 128 [.int .u8 128] from rfl) (Reps.one (show Kd.M (Kd.int .u8) _ _ _ 191 [.int .u8 191] from rfl) (Reps.none _ _)))))))); intro v253 w28 ho29 hb hg_ hnew_; clear hg_ hnew_; (first | rw [← Ny252.out] at ho29 | (simp only [Int.reduceToNat] at ho29; rw [← Ny252.out] at ho29)); have n0_ := Aside0.mk (Kd.R_lower ho29 (below_size (by repeat (first | (with_reducible first | exact HB.out | apply below_alloc | apply pw_below_drewN | apply below_drew1) | exact HB.out)))); have n1_ := Aside0.mk (below_step (by repeat (first | (with_reducible first | exact HB.out | apply below_alloc | apply pw_below_drewN | apply below_drew1) | exact HB.out)) hb); clear HB; have HO254 := n0_; have HB := n1_; clear n0_ n1_; clear hb ho29))
               go_ret2
               exact ⟨_, by first | rfl | (simp [errW_none, errW_some] <;> rfl) | (simp [*, errW_none, errW_some] <;> rfl), by (with_reducible repeat (first | apply Kd.R_alloc | apply Kd.R_drewN | apply Kd.R_drew)); exact HO254.out, by repeat (first | (with_reducible first | exact HB.out | apply below_alloc | apply pw_below_drewN | apply below_drew1) | exact HB.out)⟩
              ·rw [if_neg c27] at H
               have c27b0 : (a0 == 244) = false := beq_eq_false_iff_ne.mpr c27
               have c27b1 : (a0 != 244) = true := bne_iff_ne.mpr c27
               simp only [Option.some.injEq, Prod.mk.injEq] at H
               obtain ⟨rfl, rfl⟩ := H
               go_wp2
               go_ret2
               exact ⟨_, by first | rfl | (simp [errW_none, errW_some] <;> rfl) | (simp [*, errW_none, errW_some] <;> rfl), by first | exact Kd.R_nil _ _ _ _ _ | exact Kd.N_nil _ _ _ _ _ | exact Kd.V_nil _ _ _ _ _ | exact Kd.Q_nil _ _ _ _ _ | exact Kd.S_nil _ _ _ _ _, by repeat (first | (with_reducible first | exact HB.out | apply below_alloc | apply pw_below_drewN | apply below_drew1) | exact HB.out)⟩
end Go.Proofs.YtiggjbclbdikmaaDoor.X
namespace Go.Proofs.YtiggjbclbdikmaaDoor.X
open Go.RowKit Go.Proofs.YtiggjbclbdikmaaDoorW.PrintWords Go.Proofs.YtiggjbclbdikmaaDoorW.PrintLast Go.Proofs.YtiggjbclbdikmaaDoorW.PrintMore
attribute [local go_sem] max2_int min2_int max_two min_two max_three min_three max_four min_four   
set_option linter.unusedVariables false
set_option linter.unusedSimpArgs false
mutual
def tremaref01_At.j1 : Nat → List Int → Int → List Int → Int → Option (Int × Int × Bool)
 | 0, _, _, _, _ => none
 | k + 1, x0, x1, x7, x9 => if x9 ≤ (wrap64 ((x7.length : Int) / 2)) then (some (65533, x9, ((wrap64 (x1 + x9)) == (x0.length : Int)))) else (if x9 = 1 then (if 0 ≤ x1 then (if x1 < (x0.length : Int) then (some (wrap32 (rd x0 x1), 1, false)) else (none)) else (none)) else (if 0 ≤ x1 then (if x1 < (x0.length : Int) then (if 0 ≤ (wrap64 (7 - x9)) then (if (shl .i32 1 (wrap64 (7 - x9))) = 0 then (none) else (tremaref01_At.l1 k x0 x1 x9 (Int.tmod (wrap32 (rd x0 x1)) (shl .i32 1 (wrap64 (7 - x9)))) 1)) else (none)) else (none)) else (none)))
def tremaref01_At.l1 : Nat → List Int → Int → Int → Int → Int → Option (Int × Int × Bool)
 | 0, _, _, _, _, _ => none
 | k + 1, x0, x1, x9, x10, x11 => if x11 < x9 then (if 0 ≤ (wrap64 (x1 + x11)) then (if (wrap64 (x1 + x11)) < (x0.length : Int) then (tremaref01_At.l1 k x0 x1 x9 (wrap32 ((wrap32 (x10 * 64)) + (Int.tmod (wrap32 (rd x0 (wrap64 (x1 + x11)))) 64))) (wrap64 (x11 + 1))) else (none)) else (none)) else (some (x10, x9, false))
def tremaref01_At.l0 : Nat → List Int → Int → List Int → Int → Option (Int × Int × Bool)
 | 0, _, _, _, _ => none
 | k + 1, x0, x1, x7, x9 => if x9 ≤ (wrap64 ((x7.length : Int) / 2)) then (if (wrap64 (x1 + x9)) < (x0.length : Int) then (if 0 ≤ (wrap64 (x1 + x9)) then (if 0 ≤ (wrap64 ((wrap64 (2 * x9)) - 2)) then (if (wrap64 ((wrap64 (2 * x9)) - 2)) < (x7.length : Int) then (if (rd x0 (wrap64 (x1 + x9))) ≥ (rd x7 (wrap64 ((wrap64 (2 * x9)) - 2))) then (if 0 ≤ (wrap64 ((wrap64 (2 * x9)) - 1)) then (if (wrap64 ((wrap64 (2 * x9)) - 1)) < (x7.length : Int) then (if (rd x0 (wrap64 (x1 + x9))) ≤ (rd x7 (wrap64 ((wrap64 (2 * x9)) - 1))) then (tremaref01_At.l0 k x0 x1 x7 (wrap64 (x9 + 1))) else (tremaref01_At.j1 k x0 x1 x7 x9)) else (none)) else (none)) else (tremaref01_At.j1 k x0 x1 x7 x9)) else (none)) else (none)) else (none)) else (tremaref01_At.j1 k x0 x1 x7 x9)) else (tremaref01_At.j1 k x0 x1 x7 x9)
end
def tremaref01_At.f (k : Nat) (l0 : List Int) (a1 : Int) : Option (Int × Int × Bool) := if 0 ≤ a1 then (if a1 < (l0.length : Int) then ((tremaref01_row.f k (rd l0 a1)).bind fun bt256 => (if bt256.2 = true then (tremaref01_At.l0 k l0 a1 bt256.1 1) else (some (65533, 1, false)))) else (none)) else (none)
theorem tremaref01_At.mono_l : ∀ k, (∀ y0 y1 y2 y3, LeO (tremaref01_At.j1 k y0 y1 y2 y3) (tremaref01_At.j1 (k + 1) y0 y1 y2 y3)) ∧ (∀ y0 y1 y2 y3 y4, LeO (tremaref01_At.l1 k y0 y1 y2 y3 y4) (tremaref01_At.l1 (k + 1) y0 y1 y2 y3 y4)) ∧ (∀ y0 y1 y2 y3, LeO (tremaref01_At.l0 k y0 y1 y2 y3) (tremaref01_At.l0 (k + 1) y0 y1 y2 y3))
 | 0 => ⟨fun _ _ _ _ r h => by simp [tremaref01_At.j1] at h, fun _ _ _ _ _ r h => by simp [tremaref01_At.l1] at h, fun _ _ _ _ r h => by simp [tremaref01_At.l0] at h⟩
 | k + 1 => by
  obtain ⟨ih0, ih1, ih2⟩ := tremaref01_At.mono_l k
  refine ⟨?_, ?_, ?_⟩
  ·intro y0 y1 y2 y3
   unfold tremaref01_At.j1
   repeat' first
   | (with_reducible exact ih0 _ _ _ _)
   | (with_reducible exact ih1 _ _ _ _ _)
   | (with_reducible exact ih2 _ _ _ _)
   | (with_reducible exact tremaref01_row.mono _ _)
   | (with_reducible exact LeO.refl _)
   | (with_reducible exact LeO.none _)
   | (with_reducible refine LeO.ite ?_ ?_)
   | (with_reducible refine LeO.bind ?_ (fun _ => ?_))
   | exact ih0 _ _ _ _
   | exact ih1 _ _ _ _ _
   | exact ih2 _ _ _ _
   | exact tremaref01_row.mono _ _
   | exact LeO.none _
   | refine LeO.ite ?_ ?_
   | refine LeO.bind ?_ (fun _ => ?_)
  ·intro y0 y1 y2 y3 y4
   unfold tremaref01_At.l1
   repeat' first
   | (with_reducible exact ih0 _ _ _ _)
   | (with_reducible exact ih1 _ _ _ _ _)
   | (with_reducible exact ih2 _ _ _ _)
   | (with_reducible exact tremaref01_row.mono _ _)
   | (with_reducible exact LeO.refl _)
   | (with_reducible exact LeO.none _)
   | (with_reducible refine LeO.ite ?_ ?_)
   | (with_reducible refine LeO.bind ?_ (fun _ => ?_))
   | exact ih0 _ _ _ _
   | exact ih1 _ _ _ _ _
   | exact ih2 _ _ _ _
   | exact tremaref01_row.mono _ _
   | exact LeO.none _
   | refine LeO.ite ?_ ?_
   | refine LeO.bind ?_ (fun _ => ?_)
  ·intro y0 y1 y2 y3
   unfold tremaref01_At.l0
   repeat' first
   | (with_reducible exact ih0 _ _ _ _)
   | (with_reducible exact ih1 _ _ _ _ _)
   | (with_reducible exact ih2 _ _ _ _)
   | (with_reducible exact tremaref01_row.mono _ _)
   | (with_reducible exact LeO.refl _)
   | (with_reducible exact LeO.none _)
   | (with_reducible refine LeO.ite ?_ ?_)
   | (with_reducible refine LeO.bind ?_ (fun _ => ?_))
   | exact ih0 _ _ _ _
   | exact ih1 _ _ _ _ _
   | exact ih2 _ _ _ _
   | exact tremaref01_row.mono _ _
   | exact LeO.none _
   | refine LeO.ite ?_ ?_
   | refine LeO.bind ?_ (fun _ => ?_)
theorem tremaref01_At.mono : ∀ a0 a1 k, LeO (tremaref01_At.f k a0 a1) (tremaref01_At.f (k + 1) a0 a1) := by
 intro a0 a1 k
 obtain ⟨ih0, ih1, ih2⟩ := tremaref01_At.mono_l k
 unfold tremaref01_At.f
 repeat' first
   | (with_reducible exact ih0 _ _ _ _)
   | (with_reducible exact ih1 _ _ _ _ _)
   | (with_reducible exact ih2 _ _ _ _)
   | (with_reducible exact tremaref01_row.mono _ _)
   | (with_reducible exact LeO.refl _)
   | (with_reducible exact LeO.none _)
   | (with_reducible refine LeO.ite ?_ ?_)
   | (with_reducible refine LeO.bind ?_ (fun _ => ?_))
   | exact ih0 _ _ _ _
   | exact ih1 _ _ _ _ _
   | exact ih2 _ _ _ _
   | exact tremaref01_row.mono _ _
   | exact LeO.none _
   | refine LeO.ite ?_ ?_
   | refine LeO.bind ?_ (fun _ => ?_)
set_option maxHeartbeats 8000000 in
set_option maxRecDepth 100000 in
theorem tremaref01_At.calls (k : Nat) (A0 : Option Addr) (c0 : Nat) (l0 : List Int) (a1 : Int) (r1 : Int) (r2 : Int) (r3 : Bool) (w : World) (hr0 : Kd.C (Kd.int .u8) w A0 l0.length l0) (hc0 : l0.length ≤ c0) (h : tremaref01_At.f k l0 a1 = some (r1, r2, r3)) :
  Calls Tryd.prog 81 #[.slice A0 l0.length c0, .int .i64 a1] w fun e w' => e = .returned (.tuple #[.int .i32 r1, .int .i64 r2, .bool r3]) ∧ Below w.heap.size w w' := by
 have HR0 := Aside0.mk hr0
 have HC0 := Aside0.mk hc0
 clear hr0 hc0
 have HB := Aside0.mk (Below.refl w.heap.size w)
 have H : (if 0 ≤ a1 then (if a1 < (l0.length : Int) then ((tremaref01_row.f k (rd l0 a1)).bind fun bt256 => (if bt256.2 = true then (tremaref01_At.l0 k l0 a1 bt256.1 1) else (some (65533, 1, false)))) else (none)) else (none)) = some (r1, r2, r3) := h
 clear h
 by_cases c3 : 0 ≤ a1
 ·rw [if_pos c3] at H
  have c3b0 : decide (0 ≤ a1) = true := decide_eq_true c3
  clear c3
  by_cases c4 : a1 < (l0.length : Int)
  ·rw [if_pos c4] at H
   have c4b0 : decide (a1 < (l0.length : Int)) = true := decide_eq_true c4
   clear c4
   replace H := Option.bind_eq_some_iff.mp H
   obtain ⟨⟨t256, t257⟩, A50, H⟩ := H
   replace H : (if t257 = true then (tremaref01_At.l0 k l0 a1 t256 1) else (some (65533, 1, false))) = some (r1, r2, r3) := H
   have A5 := Aside0.mk A50
   clear A50
   by_cases c6 : t257 = true
   ·subst c6
    have H1 : (tremaref01_At.l0 k l0 a1 t256 1) = some (r1, r2, r3) := by rw [if_pos rfl] at H; exact H
    clear H
    have H := H1
    clear H1
    have HC7 := Aside0.mk H
    clear H
    have p255 : 0 ≤ (a1 : Int) := of_decide_eq_true (by first | (with_reducible assumption) | assumption)
    have q255 : a1 < (l0.length : Int) := of_decide_eq_true (by first | (with_reducible assumption) | assumption)
    obtain ⟨ad255, e255, hx255_0⟩ := Kd.at_int HR0.out a1 p255 q255
    cases e255
    replace p255 := eq_true p255
    replace q255 := eq_true q255
    go_enter Tryd.func81, Tryd.ntmps81
    go_upto_block 0 with (first | (go_at_call 93; (with_reducible refine (tremaref01_row.calls k (rd l0 a1) t256 true _ A5.out).mono ?_); rintro e w8 ⟨v258, rfl, ho0, hb⟩; have n0_ := Aside0.mk (Kd.R_lower ho0 (below_size (by repeat (first | (with_reducible first | exact HB.out | apply below_alloc | apply pw_below_drewN | apply below_drew1) | exact HB.out)))); have n1_ := Aside0.mk (below_step (by repeat (first | (with_reducible first | exact HB.out | apply below_alloc | apply pw_below_drewN | apply below_drew1) | exact HB.out)) hb); clear HB; have HO259 := n0_; have HB := n1_; clear n0_ n1_; (try clear hb); (try clear hb2); (try clear hk); (try clear hi); (try clear ho0)))
    repeat (go_quiet (first | (go_at_call 93; (with_reducible refine (tremaref01_row.calls k (rd l0 a1) t256 true _ A5.out).mono ?_); rintro e w8 ⟨v258, rfl, ho0, hb⟩; have n0_ := Aside0.mk (Kd.R_lower ho0 (below_size (by repeat (first | (with_reducible first | exact HB.out | apply below_alloc | apply pw_below_drewN | apply below_drew1) | exact HB.out)))); have n1_ := Aside0.mk (below_step (by repeat (first | (with_reducible first | exact HB.out | apply below_alloc | apply pw_below_drewN | apply below_drew1) | exact HB.out)) hb); clear HB; have HO259 := n0_; have HB := n1_; clear n0_ n1_; (try clear hb); (try clear hb2); (try clear hk); (try clear hi); (try clear ho0))); go_upto_block 0 with (first | (go_at_call 93; (with_reducible refine (tremaref01_row.calls k (rd l0 a1) t256 true _ A5.out).mono ?_); rintro e w8 ⟨v258, rfl, ho0, hb⟩; have n0_ := Aside0.mk (Kd.R_lower ho0 (below_size (by repeat (first | (with_reducible first | exact HB.out | apply below_alloc | apply pw_below_drewN | apply below_drew1) | exact HB.out)))); have n1_ := Aside0.mk (below_step (by repeat (first | (with_reducible first | exact HB.out | apply below_alloc | apply pw_below_drewN | apply below_drew1) | exact HB.out)) hb); clear HB; have HO259 := n0_; have HB := n1_; clear n0_ n1_; (try clear hb); (try clear hb2); (try clear hk); (try clear hi); (try clear ho0))))
    (try simp only [Act.put, List.setIfInBounds_toArray, List.set_cons_zero, List.set_cons_succ])
    go_cut [9] (fun v9 wc => ∃ (kq : Nat) (x9_6 : Int), v9 = .int .i64 x9_6 ∧ Aside0 (tremaref01_At.j1 kq l0 a1 t256 x9_6 = some (r1, r2, r3)) ∧ Aside0 (kq ≤ k) ∧ Aside0 (Kd.R (Kd.int .u8) 5 wc w.heap.size (fun _ => True) v258 t256) ∧ Aside0 (Below w.heap.size w wc))
    case first =>
     have H := HC7.out
     clear HC7
     have H' := Aside0.mk H
     clear H
     go_wp2
     repeat (go_quiet (fail); try go_wp2)
     go_loopg [9] k (fun kq v9 w' => ∃ (x9_1 : Int), v9 = .int .i64 x9_1 ∧ Aside0 (tremaref01_At.l0 kq l0 a1 t256 x9_1 = some (r1, r2, r3)) ∧ Aside0 (kq ≤ k) ∧ Aside0 (Kd.R (Kd.int .u8) 5 w' w.heap.size (fun _ => True) v258 t256) ∧ Aside0 (Below w.heap.size w w'))
     case atStart => exact ⟨(1), (by first | rfl | (simp; done) | (simp [*]; done)), H', ⟨Nat.le_refl _⟩, ⟨by (with_reducible repeat (first | apply Kd.R_alloc | apply Kd.R_drewN | apply Kd.R_drew)); exact HO259.out⟩, ⟨by repeat (first | (with_reducible first | exact HB.out | apply below_alloc | apply pw_below_drewN | apply below_drew1) | exact HB.out)⟩⟩
     case round =>
      clear H'
      try clear p2
      try clear q2
      try clear hx2
      try clear c3
      try clear c3b0
      try clear c4
      try clear c4b0
      try clear c6
      try clear c8
      try clear hx255_0
      try clear p255
      try clear q255
      obtain ⟨x9_1, rfl, HA, HK1, HO_7, HB⟩ := hrel
      cases gk with
      | zero => exact absurd HA.out (by simp [tremaref01_At.l0])
      | succ k1 =>
       have H := HA.out
       clear HA
       simp only [tremaref01_At.l0] at H
       by_cases c9 : x9_1 ≤ (wrap64 ((t256.length : Int) / 2))
       ·rw [if_pos c9] at H
        have c9b0 : decide (x9_1 ≤ (wrap64 ((t256.length : Int) / 2))) = true := decide_eq_true c9
        clear c9
        (first | rw [c9b0] | (simp only [i64_w, i32_w]; rw [c9b0]) | skip)
        by_cases c10 : (wrap64 (a1 + x9_1)) < (l0.length : Int)
        ·rw [if_pos c10] at H
         have c10b0 : decide ((wrap64 (a1 + x9_1)) < (l0.length : Int)) = true := decide_eq_true c10
         clear c10
         obtain ⟨ji11, hji11⟩ : ∃ j_ : Int, (wrap64 (a1 + x9_1)) = j_ := ⟨_, rfl⟩
         replace H : (if 0 ≤ (ji11) then (if 0 ≤ (wrap64 ((wrap64 (2 * x9_1)) - 2)) then (if (wrap64 ((wrap64 (2 * x9_1)) - 2)) < (t256.length : Int) then (if (rd l0 (ji11)) ≥ (rd t256 (wrap64 ((wrap64 (2 * x9_1)) - 2))) then (if 0 ≤ (wrap64 ((wrap64 (2 * x9_1)) - 1)) then (if (wrap64 ((wrap64 (2 * x9_1)) - 1)) < (t256.length : Int) then (if (rd l0 (ji11)) ≤ (rd t256 (wrap64 ((wrap64 (2 * x9_1)) - 1))) then (tremaref01_At.l0 k1 l0 a1 t256 (wrap64 (x9_1 + 1))) else (tremaref01_At.j1 k1 l0 a1 t256 x9_1)) else (none)) else (none)) else (tremaref01_At.j1 k1 l0 a1 t256 x9_1)) else (none)) else (none)) else (none)) = some (r1, r2, r3) := by first | (rw [hji11] at H; exact H) | (simp only [hji11] at H ⊢; exact H)
         (try rw [hji11] at c10b0)
         have hji11w : (IntKind.i64.wrap (a1 + x9_1)) = ji11 := (i64_w _).trans hji11
         by_cases c12 : 0 ≤ (ji11)
         ·rw [if_pos c12] at H
          have c12b0 : decide (0 ≤ (ji11)) = true := decide_eq_true c12
          clear c12
          obtain ⟨ji13, hji13⟩ : ∃ j_ : Int, (wrap64 ((wrap64 (2 * x9_1)) - 2)) = j_ := ⟨_, rfl⟩
          replace H : (if 0 ≤ (ji13) then (if (ji13) < (t256.length : Int) then (if (rd l0 (ji11)) ≥ (rd t256 (ji13)) then (if 0 ≤ (wrap64 ((wrap64 (2 * x9_1)) - 1)) then (if (wrap64 ((wrap64 (2 * x9_1)) - 1)) < (t256.length : Int) then (if (rd l0 (ji11)) ≤ (rd t256 (wrap64 ((wrap64 (2 * x9_1)) - 1))) then (tremaref01_At.l0 k1 l0 a1 t256 (wrap64 (x9_1 + 1))) else (tremaref01_At.j1 k1 l0 a1 t256 x9_1)) else (none)) else (none)) else (tremaref01_At.j1 k1 l0 a1 t256 x9_1)) else (none)) else (none)) = some (r1, r2, r3) := by first | (rw [hji13] at H; exact H) | (simp only [hji13] at H ⊢; exact H)
          have hji13w : (IntKind.i64.wrap ((wrap64 (2 * x9_1)) - 2)) = ji13 := (i64_w _).trans hji13
          by_cases c14 : 0 ≤ (ji13)
          ·rw [if_pos c14] at H
           have c14b0 : decide (0 ≤ (ji13)) = true := decide_eq_true c14
           clear c14
           by_cases c15 : (ji13) < (t256.length : Int)
           ·rw [if_pos c15] at H
            have c15b0 : decide ((ji13) < (t256.length : Int)) = true := decide_eq_true c15
            clear c15
            by_cases c16 : (rd l0 (ji11)) ≥ (rd t256 (ji13))
            ·rw [if_pos c16] at H
             have c16b0 : decide ((rd t256 (ji13)) ≤ (rd l0 (ji11))) = true := decide_eq_true c16
             clear c16
             obtain ⟨ji17, hji17⟩ : ∃ j_ : Int, (wrap64 ((wrap64 (2 * x9_1)) - 1)) = j_ := ⟨_, rfl⟩
             replace H : (if 0 ≤ (ji17) then (if (ji17) < (t256.length : Int) then (if (rd l0 (ji11)) ≤ (rd t256 (ji17)) then (tremaref01_At.l0 k1 l0 a1 t256 (wrap64 (x9_1 + 1))) else (tremaref01_At.j1 k1 l0 a1 t256 x9_1)) else (none)) else (none)) = some (r1, r2, r3) := by first | (rw [hji17] at H; exact H) | (simp only [hji17] at H ⊢; exact H)
             have hji17w : (IntKind.i64.wrap ((wrap64 (2 * x9_1)) - 1)) = ji17 := (i64_w _).trans hji17
             by_cases c18 : 0 ≤ (ji17)
             ·rw [if_pos c18] at H
              have c18b0 : decide (0 ≤ (ji17)) = true := decide_eq_true c18
              clear c18
              by_cases c19 : (ji17) < (t256.length : Int)
              ·rw [if_pos c19] at H
               have c19b0 : decide ((ji17) < (t256.length : Int)) = true := decide_eq_true c19
               clear c19
               by_cases c20 : (rd l0 (ji11)) ≤ (rd t256 (ji17))
               ·rw [if_pos c20] at H
                have c20b0 : decide ((rd l0 (ji11)) ≤ (rd t256 (ji17))) = true := decide_eq_true c20
                clear c20
                have H' := Aside0.mk H
                clear H
                obtain ⟨Ao21, co21, eo21⟩ := Kd.R_slice HO_7.out
                subst eo21
                have p260 : 0 ≤ ((ji11) : Int) := of_decide_eq_true (by first | (with_reducible assumption) | assumption)
                have q260 : (ji11) < (l0.length : Int) := of_decide_eq_true (by first | (with_reducible assumption) | assumption)
                obtain ⟨ad260, e260, hx260_0⟩ := Kd.at_int HR0.out (ji11) p260 q260
                obtain rfl : ad255 = ad260 := (by injection e260)
                replace hx260_0 := (HB.out.cell (World.block_lt_of_cell? w _ hx260_0)).trans hx260_0
                replace p260 := eq_true p260
                replace q260 := eq_true q260
                have p261 : 0 ≤ ((ji13) : Int) := of_decide_eq_true (by first | (with_reducible assumption) | assumption)
                have q261 : (ji13) < (t256.length : Int) := of_decide_eq_true (by first | (with_reducible assumption) | assumption)
                obtain ⟨ad261, e261, hx261_0⟩ := Kd.at_int (Kd.R_reads' HO_7.out).2.2 (ji13) p261 q261
                cases e261
                replace p261 := eq_true p261
                replace q261 := eq_true q261
                have p262 : 0 ≤ ((ji11) : Int) := of_decide_eq_true (by first | (with_reducible assumption) | assumption)
                have q262 : (ji11) < (l0.length : Int) := of_decide_eq_true (by first | (with_reducible assumption) | assumption)
                obtain ⟨ad262, e262, hx262_0⟩ := Kd.at_int HR0.out (ji11) p262 q262
                obtain rfl : ad255 = ad262 := (by injection e262)
                replace hx262_0 := (HB.out.cell (World.block_lt_of_cell? w _ hx262_0)).trans hx262_0
                replace p262 := eq_true p262
                replace q262 := eq_true q262
                have p263 : 0 ≤ ((ji17) : Int) := of_decide_eq_true (by first | (with_reducible assumption) | assumption)
                have q263 : (ji17) < (t256.length : Int) := of_decide_eq_true (by first | (with_reducible assumption) | assumption)
                obtain ⟨ad263, e263, hx263_0⟩ := Kd.at_int (Kd.R_reads' HO_7.out).2.2 (ji17) p263 q263
                obtain rfl : ad261 = ad263 := (by injection e263)
                replace p263 := eq_true p263
                replace q263 := eq_true q263
                go_wp2
                repeat (go_quiet (fail); try go_wp2)
                go_roundg k1
                case measure => have := HK1.out; omega
                case rel => exact ⟨(wrap64 (x9_1 + 1)), (by first | rfl | (simp; done) | (simp [*]; done)), H', ⟨by have := HK1.out; omega⟩, ⟨by (with_reducible repeat (first | apply Kd.R_alloc | apply Kd.R_drewN | apply Kd.R_drew)); exact HO_7.out⟩, ⟨by repeat (first | (with_reducible first | exact HB.out | apply below_alloc | apply pw_below_drewN | apply below_drew1) | exact HB.out)⟩⟩
               ·rw [if_neg c20] at H
                have c20b0 : decide ((rd l0 (ji11)) ≤ (rd t256 (ji17))) = false := decide_eq_false c20
                clear c20
                have H' := Aside0.mk H
                clear H
                obtain ⟨Ao22, co22, eo22⟩ := Kd.R_slice HO_7.out
                subst eo22
                have p260 : 0 ≤ ((ji11) : Int) := of_decide_eq_true (by first | (with_reducible assumption) | assumption)
                have q260 : (ji11) < (l0.length : Int) := of_decide_eq_true (by first | (with_reducible assumption) | assumption)
                obtain ⟨ad260, e260, hx260_0⟩ := Kd.at_int HR0.out (ji11) p260 q260
                obtain rfl : ad255 = ad260 := (by injection e260)
                replace hx260_0 := (HB.out.cell (World.block_lt_of_cell? w _ hx260_0)).trans hx260_0
                replace p260 := eq_true p260
                replace q260 := eq_true q260
                have p261 : 0 ≤ ((ji13) : Int) := of_decide_eq_true (by first | (with_reducible assumption) | assumption)
                have q261 : (ji13) < (t256.length : Int) := of_decide_eq_true (by first | (with_reducible assumption) | assumption)
                obtain ⟨ad261, e261, hx261_0⟩ := Kd.at_int (Kd.R_reads' HO_7.out).2.2 (ji13) p261 q261
                cases e261
                replace p261 := eq_true p261
                replace q261 := eq_true q261
                have p262 : 0 ≤ ((ji11) : Int) := of_decide_eq_true (by first | (with_reducible assumption) | assumption)
                have q262 : (ji11) < (l0.length : Int) := of_decide_eq_true (by first | (with_reducible assumption) | assumption)
                obtain ⟨ad262, e262, hx262_0⟩ := Kd.at_int HR0.out (ji11) p262 q262
                obtain rfl : ad255 = ad262 := (by injection e262)
                replace hx262_0 := (HB.out.cell (World.block_lt_of_cell? w _ hx262_0)).trans hx262_0
                replace p262 := eq_true p262
                replace q262 := eq_true q262
                have p263 : 0 ≤ ((ji17) : Int) := of_decide_eq_true (by first | (with_reducible assumption) | assumption)
                have q263 : (ji17) < (t256.length : Int) := of_decide_eq_true (by first | (with_reducible assumption) | assumption)
                obtain ⟨ad263, e263, hx263_0⟩ := Kd.at_int (Kd.R_reads' HO_7.out).2.2 (ji17) p263 q263
                obtain rfl : ad261 = ad263 := (by injection e263)
                replace p263 := eq_true p263
                replace q263 := eq_true q263
                go_wp2
                repeat (go_quiet (fail); try go_wp2)
                go_meet
                case rel => exact ⟨_, (x9_1), (by first | rfl | (simp; done) | (simp [*]; done)), H', ⟨by have := HK1.out; first | omega | exact Nat.le_refl _⟩, ⟨by (with_reducible repeat (first | apply Kd.R_alloc | apply Kd.R_drewN | apply Kd.R_drew)); exact HO_7.out⟩, ⟨by repeat (first | (with_reducible first | exact HB.out | apply below_alloc | apply pw_below_drewN | apply below_drew1) | exact HB.out)⟩⟩
              ·rw [if_neg c19] at H
               exact absurd H (by simp)
             ·rw [if_neg c18] at H
              exact absurd H (by simp)
            ·rw [if_neg c16] at H
             have c16b0 : decide ((rd t256 (ji13)) ≤ (rd l0 (ji11))) = false := decide_eq_false c16
             clear c16
             have H' := Aside0.mk H
             clear H
             obtain ⟨Ao23, co23, eo23⟩ := Kd.R_slice HO_7.out
             subst eo23
             have p260 : 0 ≤ ((ji11) : Int) := of_decide_eq_true (by first | (with_reducible assumption) | assumption)
             have q260 : (ji11) < (l0.length : Int) := of_decide_eq_true (by first | (with_reducible assumption) | assumption)
             obtain ⟨ad260, e260, hx260_0⟩ := Kd.at_int HR0.out (ji11) p260 q260
             obtain rfl : ad255 = ad260 := (by injection e260)
             replace hx260_0 := (HB.out.cell (World.block_lt_of_cell? w _ hx260_0)).trans hx260_0
             replace p260 := eq_true p260
             replace q260 := eq_true q260
             have p261 : 0 ≤ ((ji13) : Int) := of_decide_eq_true (by first | (with_reducible assumption) | assumption)
             have q261 : (ji13) < (t256.length : Int) := of_decide_eq_true (by first | (with_reducible assumption) | assumption)
             obtain ⟨ad261, e261, hx261_0⟩ := Kd.at_int (Kd.R_reads' HO_7.out).2.2 (ji13) p261 q261
             cases e261
             replace p261 := eq_true p261
             replace q261 := eq_true q261
             go_wp2
             repeat (go_quiet (fail); try go_wp2)
             go_meet
             case rel => exact ⟨_, (x9_1), (by first | rfl | (simp; done) | (simp [*]; done)), H', ⟨by have := HK1.out; first | omega | exact Nat.le_refl _⟩, ⟨by (with_reducible repeat (first | apply Kd.R_alloc | apply Kd.R_drewN | apply Kd.R_drew)); exact HO_7.out⟩, ⟨by repeat (first | (with_reducible first | exact HB.out | apply below_alloc | apply pw_below_drewN | apply below_drew1) | exact HB.out)⟩⟩
           ·rw [if_neg c15] at H
            exact absurd H (by simp)
          ·rw [if_neg c14] at H
           exact absurd H (by simp)
         ·rw [if_neg c12] at H
          exact absurd H (by simp)
        ·rw [if_neg c10] at H
         have c10b0 : decide ((wrap64 (a1 + x9_1)) < (l0.length : Int)) = false := decide_eq_false c10
         clear c10
         have H' := Aside0.mk H
         clear H
         obtain ⟨Ao24, co24, eo24⟩ := Kd.R_slice HO_7.out
         subst eo24
         go_wp2
         repeat (go_quiet (fail); try go_wp2)
         go_meet
         case rel => exact ⟨_, (x9_1), (by first | rfl | (simp; done) | (simp [*]; done)), H', ⟨by have := HK1.out; first | omega | exact Nat.le_refl _⟩, ⟨by (with_reducible repeat (first | apply Kd.R_alloc | apply Kd.R_drewN | apply Kd.R_drew)); exact HO_7.out⟩, ⟨by repeat (first | (with_reducible first | exact HB.out | apply below_alloc | apply pw_below_drewN | apply below_drew1) | exact HB.out)⟩⟩
       ·rw [if_neg c9] at H
        have c9b0 : decide (x9_1 ≤ (wrap64 ((t256.length : Int) / 2))) = false := decide_eq_false c9
        clear c9
        (first | rw [c9b0] | (simp only [i64_w, i32_w]; rw [c9b0]) | skip)
        have H' := Aside0.mk H
        clear H
        obtain ⟨Ao25, co25, eo25⟩ := Kd.R_slice HO_7.out
        subst eo25
        go_wp2
        repeat (go_quiet (fail); try go_wp2)
        go_meet
        case rel => exact ⟨_, (x9_1), (by first | rfl | (simp; done) | (simp [*]; done)), H', ⟨by have := HK1.out; first | omega | exact Nat.le_refl _⟩, ⟨by (with_reducible repeat (first | apply Kd.R_alloc | apply Kd.R_drewN | apply Kd.R_drew)); exact HO_7.out⟩, ⟨by repeat (first | (with_reducible first | exact HB.out | apply below_alloc | apply pw_below_drewN | apply below_drew1) | exact HB.out)⟩⟩
    case rest =>
     clear HC7
     try clear c1
     try clear c2
     try clear p2
     try clear q2
     try clear hx2
     try clear c3
     try clear c3b0
     try clear c4
     try clear c4b0
     try clear c6
     try clear p6
     try clear c8
     try clear c9
     try clear c9b0
     try clear c10
     try clear c10b0
     try clear c12
     try clear c12b0
     try clear c14
     try clear c14b0
     try clear c15
     try clear c15b0
     try clear c16
     try clear c16b0
     try clear c18
     try clear c18b0
     try clear c19
     try clear c19b0
     try clear c20
     try clear c20b0
     try clear p25
     try clear q25
     try clear hx25
     try clear hx255_0
     try clear hx260_0
     try clear hx261_0
     try clear hx262_0
     try clear hx263_0
     try clear p2
     try clear p255
     try clear p260
     try clear p261
     try clear p262
     try clear p263
     try clear q2
     try clear q255
     try clear q260
     try clear q261
     try clear q262
     try clear q263
     obtain ⟨kq, x9_6, rfl, HA, HJ6, HO_7, HB⟩ := hcut
     cases kq with
     | zero => exact absurd HA.out (by simp [tremaref01_At.j1])
     | succ kj6 =>
      have H := HA.out
      clear HA
      simp only [tremaref01_At.j1] at H
      by_cases c26 : x9_6 ≤ (wrap64 ((t256.length : Int) / 2))
      ·rw [if_pos c26] at H
       have c26b0 : decide (x9_6 ≤ (wrap64 ((t256.length : Int) / 2))) = true := decide_eq_true c26
       clear c26
       simp only [Option.some.injEq, Prod.mk.injEq] at H
       obtain ⟨rfl, rfl, rfl⟩ := H
       obtain ⟨Ao27, co27, eo27⟩ := Kd.R_slice HO_7.out
       subst eo27
       go_wp2
       repeat (go_quiet (fail); try go_wp2)
       go_ret3
       exact ⟨by first | rfl | (simp [errW_none, errW_some] <;> rfl) | (simp [*, errW_none, errW_some] <;> rfl), by repeat (first | (with_reducible first | exact HB.out | apply below_alloc | apply pw_below_drewN | apply below_drew1) | exact HB.out)⟩
      ·rw [if_neg c26] at H
       have c26b0 : decide (x9_6 ≤ (wrap64 ((t256.length : Int) / 2))) = false := decide_eq_false c26
       clear c26
       by_cases c28 : x9_6 = 1
       ·rw [if_pos c28] at H
        have c28b0 : (x9_6 == 1) = true := beq_iff_eq.mpr c28
        have c28b1 : (x9_6 != 1) = false := bne_eq_false_iff_eq.mpr c28
        clear c28
        by_cases c29 : 0 ≤ a1
        ·rw [if_pos c29] at H
         have c29b0 : decide (0 ≤ a1) = true := decide_eq_true c29
         clear c29
         by_cases c30 : a1 < (l0.length : Int)
         ·rw [if_pos c30] at H
          have c30b0 : decide (a1 < (l0.length : Int)) = true := decide_eq_true c30
          clear c30
          simp only [Option.some.injEq, Prod.mk.injEq] at H
          obtain ⟨rfl, rfl, rfl⟩ := H
          obtain ⟨Ao31, co31, eo31⟩ := Kd.R_slice HO_7.out
          subst eo31
          have p264 : 0 ≤ (a1 : Int) := of_decide_eq_true (by first | (with_reducible assumption) | assumption)
          have q264 : a1 < (l0.length : Int) := of_decide_eq_true (by first | (with_reducible assumption) | assumption)
          obtain ⟨ad264, e264, hx264_0⟩ := Kd.at_int HR0.out a1 p264 q264
          obtain rfl : ad255 = ad264 := (by injection e264)
          replace hx264_0 := (HB.out.cell (World.block_lt_of_cell? w _ hx264_0)).trans hx264_0
          replace p264 := eq_true p264
          replace q264 := eq_true q264
          go_wp2
          repeat (go_quiet (fail); try go_wp2)
          go_ret3
          exact ⟨by first | rfl | (simp [errW_none, errW_some] <;> rfl) | (simp [*, errW_none, errW_some] <;> rfl), by repeat (first | (with_reducible first | exact HB.out | apply below_alloc | apply pw_below_drewN | apply below_drew1) | exact HB.out)⟩
         ·rw [if_neg c30] at H
          exact absurd H (by simp)
        ·rw [if_neg c29] at H
         exact absurd H (by simp)
       ·rw [if_neg c28] at H
        have c28b0 : (x9_6 == 1) = false := beq_eq_false_iff_ne.mpr c28
        have c28b1 : (x9_6 != 1) = true := bne_iff_ne.mpr c28
        by_cases c32 : 0 ≤ a1
        ·rw [if_pos c32] at H
         have c32b0 : decide (0 ≤ a1) = true := decide_eq_true c32
         clear c32
         by_cases c33 : a1 < (l0.length : Int)
         ·rw [if_pos c33] at H
          have c33b0 : decide (a1 < (l0.length : Int)) = true := decide_eq_true c33
          clear c33
          obtain ⟨ji34, hji34⟩ : ∃ j_ : Int, (wrap64 (7 - x9_6)) = j_ := ⟨_, rfl⟩
          replace H : (if 0 ≤ (ji34) then (if (shl .i32 1 (ji34)) = 0 then (none) else (tremaref01_At.l1 kj6 l0 a1 x9_6 (Int.tmod (wrap32 (rd l0 a1)) (shl .i32 1 (ji34))) 1)) else (none)) = some (r1, r2, r3) := by first | (rw [hji34] at H; exact H) | (simp only [hji34] at H ⊢; exact H)
          have hji34w : (IntKind.i64.wrap (7 - x9_6)) = ji34 := (i64_w _).trans hji34
          by_cases c35 : 0 ≤ (ji34)
          ·rw [if_pos c35] at H
           have c35b0 := eq_true c35
           have c35b1 : decide (0 ≤ (ji34)) = true := decide_eq_true c35
           clear c35
           obtain ⟨ji36, hji36⟩ : ∃ j_ : Int, (shl .i32 1 (ji34)) = j_ := ⟨_, rfl⟩
           replace H : (if (ji36) = 0 then (none) else (tremaref01_At.l1 kj6 l0 a1 x9_6 (Int.tmod (wrap32 (rd l0 a1)) (ji36)) 1)) = some (r1, r2, r3) := by first | (rw [hji36] at H; exact H) | (simp only [hji36] at H ⊢; exact H)
           have hji36_ : (IntKind.i32.wrap (1 * 2 ^ min (ji34).toNat 32)) = ji36 := hji36
           have hji36z : (ji34) ≤ 32 → (IntKind.i32.wrap (1 * 2 ^ (ji34).toNat)) = ji36 := shl_small hji36
           have hji36u : (IntKind.i32.wrap (2 ^ min (ji34).toNat 32)) = ji36 := by have h_ := hji36_; rw [Int.one_mul] at h_; exact h_
           have hji36v : (ji34) ≤ 32 → (IntKind.i32.wrap (2 ^ (ji34).toNat)) = ji36 := fun hle_ => by have h_ := hji36z hle_; rw [Int.one_mul] at h_; exact h_
           have hji36y : (wrap32 (1 * 2 ^ min (ji34).toNat 32)) = ji36 := (i32_w _).symm.trans hji36_
           have hji36x : (ji34) ≤ 32 → (wrap32 (1 * 2 ^ (ji34).toNat)) = ji36 := fun h_ => (i32_w _).symm.trans (hji36z h_)
           by_cases c37 : (ji36) = 0
           ·rw [if_pos c37] at H
            exact absurd H (by simp)
           ·rw [if_neg c37] at H
            have c37b0 : ((ji36) == 0) = false := beq_eq_false_iff_ne.mpr c37
            have c37b1 : ((ji36) != 0) = true := bne_iff_ne.mpr c37
            have H' := Aside0.mk H
            clear H
            obtain ⟨Ao38, co38, eo38⟩ := Kd.R_slice HO_7.out
            subst eo38
            have p265 : 0 ≤ (a1 : Int) := of_decide_eq_true (by first | (with_reducible assumption) | assumption)
            have q265 : a1 < (l0.length : Int) := of_decide_eq_true (by first | (with_reducible assumption) | assumption)
            obtain ⟨ad265, e265, hx265_0⟩ := Kd.at_int HR0.out a1 p265 q265
            obtain rfl : ad255 = ad265 := (by injection e265)
            replace hx265_0 := (HB.out.cell (World.block_lt_of_cell? w _ hx265_0)).trans hx265_0
            replace p265 := eq_true p265
            replace q265 := eq_true q265
            go_wp2
            repeat (go_quiet (fail); try go_wp2)
            go_loopg [10, 11] kj6 (fun kq v10 v11 w' => ∃ (x10_2 : Int) (x11_2 : Int), v10 = .int .i32 x10_2 ∧ v11 = .int .i64 x11_2 ∧ Aside0 (tremaref01_At.l1 kq l0 a1 x9_6 x10_2 x11_2 = some (r1, r2, r3)) ∧ Aside0 (kq ≤ kj6) ∧ Aside0 (Below w.heap.size w w'))
            case atStart => exact ⟨(Int.tmod (wrap32 (rd l0 a1)) (ji36)), (1), (by first | rfl | (simp; done) | (simp only [← hji36] <;> (first | rfl | simp)) | (simp [*]; done)), (by first | rfl | (simp; done) | (simp [*]; done)), H', ⟨Nat.le_refl _⟩, ⟨by repeat (first | (with_reducible first | exact HB.out | apply below_alloc | apply pw_below_drewN | apply below_drew1) | exact HB.out)⟩⟩
            case round =>
             clear H'
             try clear c1
             try clear c2
             try clear p2
             try clear q2
             try clear hx2
             try clear c3
             try clear c3b0
             try clear p3
             try clear c4
             try clear c4b0
             try clear c6
             try clear p6
             try clear c8
             try clear c9
             try clear c9b0
             try clear c10
             try clear c10b0
             try clear c12
             try clear c12b0
             try clear c14
             try clear c14b0
             try clear c15
             try clear c15b0
             try clear c16
             try clear c16b0
             try clear c18
             try clear c18b0
             try clear c19
             try clear c19b0
             try clear c20
             try clear c20b0
             try clear p25
             try clear q25
             try clear hx25
             try clear c26
             try clear c26b0
             try clear p26
             try clear q26
             try clear hx26
             try clear c28
             try clear c28b0
             try clear c28b1
             try clear c29
             try clear c29b0
             try clear c30
             try clear c30b0
             try clear c32
             try clear c32b0
             try clear p32
             try clear c33
             try clear c33b0
             try clear c35
             try clear c35b0
             try clear c35b1
             try clear c37
             try clear c37b0
             try clear c37b1
             try clear hx255_0
             try clear hx260_0
             try clear hx261_0
             try clear hx262_0
             try clear hx263_0
             try clear hx264_0
             try clear hx265_0
             try clear p2
             try clear p25
             try clear p255
             try clear p260
             try clear p261
             try clear p262
             try clear p263
             try clear p264
             try clear p265
             try clear p6
             try clear q2
             try clear q25
             try clear q255
             try clear q260
             try clear q261
             try clear q262
             try clear q263
             try clear q264
             try clear q265
             obtain ⟨x10_2, x11_2, rfl, rfl, HA, HK2, HB⟩ := hrel
             cases gk with
             | zero => exact absurd HA.out (by simp [tremaref01_At.l1])
             | succ k2 =>
              have H := HA.out
              clear HA
              simp only [tremaref01_At.l1] at H
              by_cases c39 : x11_2 < x9_6
              ·rw [if_pos c39] at H
               have c39b0 : decide (x11_2 < x9_6) = true := decide_eq_true c39
               clear c39
               obtain ⟨ji40, hji40⟩ : ∃ j_ : Int, (wrap64 (a1 + x11_2)) = j_ := ⟨_, rfl⟩
               replace H : (if 0 ≤ (ji40) then (if (ji40) < (l0.length : Int) then (tremaref01_At.l1 k2 l0 a1 x9_6 (wrap32 ((wrap32 (x10_2 * 64)) + (Int.tmod (wrap32 (rd l0 (ji40))) 64))) (wrap64 (x11_2 + 1))) else (none)) else (none)) = some (r1, r2, r3) := by first | (rw [hji40] at H; exact H) | (simp only [hji40] at H ⊢; exact H)
               have hji40w : (IntKind.i64.wrap (a1 + x11_2)) = ji40 := (i64_w _).trans hji40
               by_cases c41 : 0 ≤ (ji40)
               ·rw [if_pos c41] at H
                have c41b0 : decide (0 ≤ (ji40)) = true := decide_eq_true c41
                clear c41
                by_cases c42 : (ji40) < (l0.length : Int)
                ·rw [if_pos c42] at H
                 have c42b0 : decide ((ji40) < (l0.length : Int)) = true := decide_eq_true c42
                 clear c42
                 have H' := Aside0.mk H
                 clear H
                 have p266 : 0 ≤ ((ji40) : Int) := of_decide_eq_true (by first | (with_reducible assumption) | assumption)
                 have q266 : (ji40) < (l0.length : Int) := of_decide_eq_true (by first | (with_reducible assumption) | assumption)
                 obtain ⟨ad266, e266, hx266_0⟩ := Kd.at_int HR0.out (ji40) p266 q266
                 obtain rfl : ad255 = ad266 := (by injection e266)
                 replace hx266_0 := (HB.out.cell (World.block_lt_of_cell? w _ hx266_0)).trans hx266_0
                 replace p266 := eq_true p266
                 replace q266 := eq_true q266
                 go_wp2
                 repeat (go_quiet (fail); try go_wp2)
                 go_roundg k2
                 case measure => have := HJ6.out; have := HK2.out; omega
                 case rel => exact ⟨(wrap32 ((wrap32 (x10_2 * 64)) + (Int.tmod (wrap32 (rd l0 (ji40))) 64))), (wrap64 (x11_2 + 1)), (by first | rfl | (simp; done) | (simp only [← hji40] <;> (first | rfl | simp)) | (simp [*]; done)), (by first | rfl | (simp; done) | (simp [*]; done)), H', ⟨by have := HJ6.out; have := HK2.out; omega⟩, ⟨by repeat (first | (with_reducible first | exact HB.out | apply below_alloc | apply pw_below_drewN | apply below_drew1) | exact HB.out)⟩⟩
                ·rw [if_neg c42] at H
                 exact absurd H (by simp)
               ·rw [if_neg c41] at H
                exact absurd H (by simp)
              ·rw [if_neg c39] at H
               have c39b0 : decide (x11_2 < x9_6) = false := decide_eq_false c39
               clear c39
               simp only [Option.some.injEq, Prod.mk.injEq] at H
               obtain ⟨rfl, rfl, rfl⟩ := H
               go_wp2
               repeat (go_quiet (fail); try go_wp2)
               go_ret3
               exact ⟨by first | rfl | (simp [errW_none, errW_some] <;> rfl) | (simp only [← hji34, ← hji36]; first | rfl | (simp [errW_none, errW_some] <;> rfl)) | (simp [*, errW_none, errW_some] <;> rfl), by repeat (first | (with_reducible first | exact HB.out | apply below_alloc | apply pw_below_drewN | apply below_drew1) | exact HB.out)⟩
          ·rw [if_neg c35] at H
           exact absurd H (by simp)
         ·rw [if_neg c33] at H
          exact absurd H (by simp)
        ·rw [if_neg c32] at H
         exact absurd H (by simp)
   ·replace c6 := Bool.eq_false_iff.mpr c6
    subst c6
    have H1 : (some (65533, 1, false)) = some (r1, r2, r3) := by rw [if_neg (show ¬ (false = true) by decide)] at H; exact H
    clear H
    have H := H1
    clear H1
    simp only [Option.some.injEq, Prod.mk.injEq] at H
    obtain ⟨rfl, rfl, rfl⟩ := H
    have p255 : 0 ≤ (a1 : Int) := of_decide_eq_true (by first | (with_reducible assumption) | assumption)
    have q255 : a1 < (l0.length : Int) := of_decide_eq_true (by first | (with_reducible assumption) | assumption)
    obtain ⟨ad255, e255, hx255_0⟩ := Kd.at_int HR0.out a1 p255 q255
    cases e255
    replace p255 := eq_true p255
    replace q255 := eq_true q255
    go_enter Tryd.func81, Tryd.ntmps81
    go_wp2_with (first | (go_at_call 93; (with_reducible refine (tremaref01_row.calls k (rd l0 a1) t256 false _ A5.out).mono ?_); rintro e w43 ⟨v258, rfl, ho0, hb⟩; have n0_ := Aside0.mk (Kd.R_lower ho0 (below_size (by repeat (first | (with_reducible first | exact HB.out | apply below_alloc | apply pw_below_drewN | apply below_drew1) | exact HB.out)))); have n1_ := Aside0.mk (below_step (by repeat (first | (with_reducible first | exact HB.out | apply below_alloc | apply pw_below_drewN | apply below_drew1) | exact HB.out)) hb); clear HB; have HO259 := n0_; have HB := n1_; clear n0_ n1_; (try clear hb); (try clear hb2); (try clear hk); (try clear hi); (try clear ho0)))
    repeat (go_quiet (first | (go_at_call 93; (with_reducible refine (tremaref01_row.calls k (rd l0 a1) t256 false _ A5.out).mono ?_); rintro e w43 ⟨v258, rfl, ho0, hb⟩; have n0_ := Aside0.mk (Kd.R_lower ho0 (below_size (by repeat (first | (with_reducible first | exact HB.out | apply below_alloc | apply pw_below_drewN | apply below_drew1) | exact HB.out)))); have n1_ := Aside0.mk (below_step (by repeat (first | (with_reducible first | exact HB.out | apply below_alloc | apply pw_below_drewN | apply below_drew1) | exact HB.out)) hb); clear HB; have HO259 := n0_; have HB := n1_; clear n0_ n1_; (try clear hb); (try clear hb2); (try clear hk); (try clear hi); (try clear ho0))); try go_wp2_with (first | (go_at_call 93; (with_reducible refine (tremaref01_row.calls k (rd l0 a1) t256 false _ A5.out).mono ?_); rintro e w43 ⟨v258, rfl, ho0, hb⟩; have n0_ := Aside0.mk (Kd.R_lower ho0 (below_size (by repeat (first | (with_reducible first | exact HB.out | apply below_alloc | apply pw_below_drewN | apply below_drew1) | exact HB.out)))); have n1_ := Aside0.mk (below_step (by repeat (first | (with_reducible first | exact HB.out | apply below_alloc | apply pw_below_drewN | apply below_drew1) | exact HB.out)) hb); clear HB; have HO259 := n0_; have HB := n1_; clear n0_ n1_; (try clear hb); (try clear hb2); (try clear hk); (try clear hi); (try clear ho0))))
    go_ret3
    exact ⟨by first | rfl | (simp [errW_none, errW_some] <;> rfl) | (simp [*, errW_none, errW_some] <;> rfl), by repeat (first | (with_reducible first | exact HB.out | apply below_alloc | apply pw_below_drewN | apply below_drew1) | exact HB.out)⟩
  ·rw [if_neg c4] at H
   exact absurd H (by simp)
 ·rw [if_neg c3] at H
  exact absurd H (by simp)
end Go.Proofs.YtiggjbclbdikmaaDoor.X
namespace Go.Proofs.YtiggjbclbdikmaaDoor.X
open Go.RowKit Go.Proofs.YtiggjbclbdikmaaDoorW.PrintWords Go.Proofs.YtiggjbclbdikmaaDoorW.PrintLast Go.Proofs.YtiggjbclbdikmaaDoorW.PrintMore
attribute [local go_sem] max2_int min2_int max_two min_two max_three min_three max_four min_four   
set_option linter.unusedVariables false
set_option linter.unusedSimpArgs false
def tremaref01_Decode.l0 : Nat → List Int → Bool → List (S75) → Int → Option ((List (S75)))
 | 0, _, _, _, _ => none
 | k + 1, x0, x1, x5, x6 => if x6 < (x0.length : Int) then ((tremaref01_At.f k x0 x6).bind fun bt267 => (if x1 = true then (if bt267.2.2 = true then (some x5) else (if x5.length < 5864062014805 then (tremaref01_Decode.l0 k x0 x1 (x5 ++ [(⟨bt267.1, x6, bt267.2.1⟩ : S75)]) (wrap64 (x6 + bt267.2.1))) else (none))) else (if x5.length < 5864062014805 then (tremaref01_Decode.l0 k x0 x1 (x5 ++ [(⟨bt267.1, x6, bt267.2.1⟩ : S75)]) (wrap64 (x6 + bt267.2.1))) else (none)))) else (some x5)
def tremaref01_Decode.f (k : Nat) (l0 : List Int) (a1 : Bool) : Option ((List (S75))) := tremaref01_Decode.l0 k l0 a1 ([] : List (S75)) 0
theorem tremaref01_Decode.mono_l : ∀ k, (∀ y0 y1 y2 y3, LeO (tremaref01_Decode.l0 k y0 y1 y2 y3) (tremaref01_Decode.l0 (k + 1) y0 y1 y2 y3))
 | 0 => fun _ _ _ _ r h => by simp [tremaref01_Decode.l0] at h
 | k + 1 => by
  have ih0 := tremaref01_Decode.mono_l k
  ·intro y0 y1 y2 y3
   unfold tremaref01_Decode.l0
   repeat' first
   | (with_reducible exact ih0 _ _ _ _)
   | (with_reducible exact tremaref01_At.mono _ _ _)
   | (with_reducible exact LeO.refl _)
   | (with_reducible exact LeO.none _)
   | (with_reducible refine LeO.ite ?_ ?_)
   | (with_reducible refine LeO.bind ?_ (fun _ => ?_))
   | exact ih0 _ _ _ _
   | exact tremaref01_At.mono _ _ _
   | exact LeO.none _
   | refine LeO.ite ?_ ?_
   | refine LeO.bind ?_ (fun _ => ?_)
theorem tremaref01_Decode.mono : ∀ a0 a1 k, LeO (tremaref01_Decode.f k a0 a1) (tremaref01_Decode.f (k + 1) a0 a1) := by
 intro a0 a1 k
 have ih0 := tremaref01_Decode.mono_l k
 unfold tremaref01_Decode.f
 repeat' first
   | (with_reducible exact ih0 _ _ _ _)
   | (with_reducible exact tremaref01_At.mono _ _ _)
   | (with_reducible exact LeO.refl _)
   | (with_reducible exact LeO.none _)
   | (with_reducible refine LeO.ite ?_ ?_)
   | (with_reducible refine LeO.bind ?_ (fun _ => ?_))
   | exact ih0 _ _ _ _
   | exact tremaref01_At.mono _ _ _
   | exact LeO.none _
   | refine LeO.ite ?_ ?_
   | refine LeO.bind ?_ (fun _ => ?_)
set_option maxHeartbeats 8000000 in
set_option maxRecDepth 100000 in
theorem tremaref01_Decode.calls (k : Nat) (A0 : Option Addr) (c0 : Nat) (l0 : List Int) (a1 : Bool) (r : List (S75)) (w : World) (hr0 : Kd.C (Kd.int .u8) w A0 l0.length l0) (hc0 : l0.length ≤ c0) (h : tremaref01_Decode.f k l0 a1 = some r) :
  Calls Tryd.prog 59 #[.slice A0 l0.length c0, .bool a1] w fun e w' => ∃ v0_ : Value, e = .returned (v0_) ∧ Kd.R k75 75 w' w.heap.size (fun _ => True) v0_ r ∧ Below w.heap.size w w' := by
 have hu75 := Tryd.underlying75
 have HR0 := Aside0.mk hr0
 have HC0 := Aside0.mk hc0
 clear hr0 hc0
 have HB := Aside0.mk (Below.refl w.heap.size w)
 have H : (tremaref01_Decode.l0 k l0 a1 ([] : List (S75)) 0) = some r := h
 clear h
 have H' := Aside0.mk H
 clear H
 go_enter Tryd.func59, Tryd.ntmps59
 go_wp2
 go_loopg [5, 6] k (fun kq v5 v6 w' => ∃ (x5_1 : List (S75)) (x6_1 : Int), v6 = .int .i64 x6_1 ∧ Aside0 (tremaref01_Decode.l0 kq l0 a1 x5_1 x6_1 = some r) ∧ Aside0 (kq ≤ k) ∧ Aside0 (Kd.R k75 75 w' w.heap.size (fun _ => True) v5 x5_1) ∧ Aside0 (Below w.heap.size w w'))
 case atStart => exact ⟨(([] : List (S75))), (0), (by first | rfl | (simp; done) | (simp [*]; done)), H', ⟨Nat.le_refl _⟩, ⟨by first | exact Kd.R_nil _ _ _ _ _ | exact Kd.N_nil _ _ _ _ _ | exact Kd.V_nil _ _ _ _ _ | exact Kd.Q_nil _ _ _ _ _ | exact Kd.S_nil _ _ _ _ _⟩, ⟨by repeat (first | (with_reducible first | exact HB.out | apply below_alloc | apply pw_below_drewN | apply below_drew1) | exact HB.out)⟩⟩
 case round =>
  clear H'
  try clear p2
  obtain ⟨x5_1, x6_1, rfl, HA, HK1, HO_5, HB⟩ := hrel
  cases gk with
  | zero => exact absurd HA.out (by simp [tremaref01_Decode.l0])
  | succ k1 =>
   have H := HA.out
   clear HA
   simp only [tremaref01_Decode.l0] at H
   by_cases c3 : x6_1 < (l0.length : Int)
   ·rw [if_pos c3] at H
    have c3b0 : decide (x6_1 < (l0.length : Int)) = true := decide_eq_true c3
    clear c3
    replace H := Option.bind_eq_some_iff.mp H
    obtain ⟨⟨t267, t268, t269⟩, A40, H⟩ := H
    replace H : (if a1 = true then (if t269 = true then (some x5_1) else (if x5_1.length < 5864062014805 then (tremaref01_Decode.l0 k1 l0 a1 (x5_1 ++ [(⟨t267, x6_1, t268⟩ : S75)]) (wrap64 (x6_1 + t268))) else (none))) else (if x5_1.length < 5864062014805 then (tremaref01_Decode.l0 k1 l0 a1 (x5_1 ++ [(⟨t267, x6_1, t268⟩ : S75)]) (wrap64 (x6_1 + t268))) else (none))) = some r := H
    have A4 := Aside0.mk A40
    clear A40
    by_cases c5 : a1 = true
    ·subst c5
     have H1 : (if t269 = true then (some x5_1) else (if x5_1.length < 5864062014805 then (tremaref01_Decode.l0 k1 l0 true (x5_1 ++ [(⟨t267, x6_1, t268⟩ : S75)]) (wrap64 (x6_1 + t268))) else (none))) = some r := by rw [if_pos rfl] at H; exact H
     clear H
     have H := H1
     clear H1
     by_cases c6 : t269 = true
     ·subst c6
      have H1 : (some x5_1) = some r := by rw [if_pos rfl] at H; exact H
      clear H
      have H := H1
      clear H1
      obtain rfl := Option.some.inj H
      go_wp2_with (first | ((with_reducible refine gate_callee (f := 81) rfl ?_); refine goesL_ (some 17) rfl rfl Tryd.func81 (by kernel_rfl) rfl #[.slice A0 l0.length c0, .int .i64 x6_1] rfl (by (try simp only [List.map_toArray, List.map_cons, List.map_nil]); first | done | rfl | (simp only [List.length_drop, List.length_take]; rfl)) ?_; (with_reducible refine (tremaref01_At.calls k1 _ _ l0 x6_1 t267 t268 true _ ?side1 ?side2 A4.out).mono ?_); (case side1 => repeat (first | exact (Kd.C_below HR0.out HB.out) | (with_reducible refine Kd.C_alloc ?_ _) | (with_reducible refine Kd.C_drewN ?_ _) | (with_reducible refine Kd.C_drew ?_))); (case side2 => exact HC0.out); rintro e w7 ⟨rfl, hb⟩; refine ⟨_, rfl, ?_⟩; have n0_ := Aside0.mk (Kd.R_below (by (with_reducible repeat (first | apply Kd.R_alloc | apply Kd.R_drewN | apply Kd.R_drew)); exact HO_5.out) hb); have n1_ := Aside0.mk (below_step (by repeat (first | (with_reducible first | exact HB.out | apply below_alloc | apply pw_below_drewN | apply below_drew1) | exact HB.out)) hb); clear HO_5; clear HB; have HO_5 := n0_; have HB := n1_; clear n0_ n1_; (try clear hb); (try clear hb2); (try clear hk); (try clear hi)))
      go_ret
      exact ⟨_, by first | rfl | (simp [errW_none, errW_some] <;> rfl) | (simp [*, errW_none, errW_some] <;> rfl), by (with_reducible repeat (first | apply Kd.R_alloc | apply Kd.R_drewN | apply Kd.R_drew)); exact HO_5.out, by repeat (first | (with_reducible first | exact HB.out | apply below_alloc | apply pw_below_drewN | apply below_drew1) | exact HB.out)⟩
     ·replace c6 := Bool.eq_false_iff.mpr c6
      subst c6
      have H1 : (if x5_1.length < 5864062014805 then (tremaref01_Decode.l0 k1 l0 true (x5_1 ++ [(⟨t267, x6_1, t268⟩ : S75)]) (wrap64 (x6_1 + t268))) else (none)) = some r := by rw [if_neg (show ¬ (false = true) by decide)] at H; exact H
      clear H
      have H := H1
      clear H1
      by_cases c8 : x5_1.length < 5864062014805
      ·rw [if_pos c8] at H
       have LMc8 := Aside0.mk c8
       clear c8
       obtain ⟨y270, hy270⟩ : ∃ y_ : List (S75), y_ = (x5_1 ++ [(⟨t267, x6_1, t268⟩ : S75)]) := ⟨_, rfl⟩
       replace H : (tremaref01_Decode.l0 k1 l0 true y270 (wrap64 (x6_1 + t268))) = some r := by first | (rw [hy270]; with_reducible exact H) | (have H2_ := (Option.bind_some _ _).symm.trans H; rw [hy270]; with_reducible exact H2_) | (have H2_ := (Option.bind_some _ _).symm.trans H; with_reducible exact H2_) | with_reducible exact H | (rw [hy270]; exact H) | exact H
       have Ny270 := Aside0.mk hy270
       clear hy270
       have H' := Aside0.mk H
       clear H
       go_wp2_with (first | ((with_reducible refine gate_callee (f := 81) rfl ?_); refine goesL_ (some 17) rfl rfl Tryd.func81 (by kernel_rfl) rfl #[.slice A0 l0.length c0, .int .i64 x6_1] rfl (by (try simp only [List.map_toArray, List.map_cons, List.map_nil]); first | done | rfl | (simp only [List.length_drop, List.length_take]; rfl)) ?_; (with_reducible refine (tremaref01_At.calls k1 _ _ l0 x6_1 t267 t268 false _ ?side1 ?side2 A4.out).mono ?_); (case side1 => repeat (first | exact (Kd.C_below HR0.out HB.out) | (with_reducible refine Kd.C_alloc ?_ _) | (with_reducible refine Kd.C_drewN ?_ _) | (with_reducible refine Kd.C_drew ?_))); (case side2 => exact HC0.out); rintro e w9 ⟨rfl, hb⟩; refine ⟨_, rfl, ?_⟩; have n0_ := Aside0.mk (Kd.R_below (by (with_reducible repeat (first | apply Kd.R_alloc | apply Kd.R_drewN | apply Kd.R_drew)); exact HO_5.out) hb); have n1_ := Aside0.mk (below_step (by repeat (first | (with_reducible first | exact HB.out | apply below_alloc | apply pw_below_drewN | apply below_drew1) | exact HB.out)) hb); clear HO_5; clear HB; have HO_5 := n0_; have HB := n1_; clear n0_ n1_; (try clear hb); (try clear hb2); (try clear hk); (try clear hi)) | ((with_reducible refine gate_builtin (b := .append) (xs := #[.tmp 26, .tmp 31]) rfl ?_); at_builtin; refine Kd.R_append k75 (w0 := w) w.heap.size rfl (.tmp 26) (.tmp 31) 72 75 (.agg #[(.int .i32 0), (.int .i64 0), (.int .i64 0)]) 24 rfl Tryd.underlying72 info75 rfl (by decide) (by omega) u5 x5_1 (⟨t267, x6_1, t268⟩ : S75) [.int .i32 t267, .int .i64 x6_1, .int .i64 t268] (fun _ => True) (fun _ => False) rfl rfl ?aP (fun _ hk => hk.elim) ?aF ?aO ?aB ?aS ?aL ?_; (case aP => exact k75_mkM _ _ _ (⟨t267, x6_1, t268⟩ : S75)); (case aB => exact (by repeat (first | (with_reducible first | exact HB.out | apply below_alloc | apply pw_below_drewN | apply below_drew1) | exact HB.out))); (case aF => exact (fun _ _ => trivial)); (case aO => exact (by (with_reducible repeat (first | apply Kd.R_alloc | apply Kd.R_drewN | apply Kd.R_drew)); exact HO_5.out)); (case aS => exact (below_size (by repeat (first | (with_reducible first | exact HB.out | apply below_alloc | apply pw_below_drewN | apply below_drew1) | exact HB.out)))); (case aL => have := LMc8.out; omega); intro v271 w10 ho hb hg hat; rw [← Ny270.out] at ho; have n0_ := Aside0.mk (hb); have n1_ := Aside0.mk (ho); clear HB; clear HO_5; have HB := n0_; have HO272 := n1_; clear n0_ n1_; clear ho hb hg hat))
       go_roundg k1
       case measure => have := HK1.out; omega
       case rel => exact ⟨(y270), (wrap64 (x6_1 + t268)), (by first | rfl | (simp; done) | (simp [*]; done)), H', ⟨by have := HK1.out; omega⟩, ⟨by (with_reducible repeat (first | apply Kd.R_alloc | apply Kd.R_drewN | apply Kd.R_drew)); exact HO272.out⟩, ⟨by repeat (first | (with_reducible first | exact HB.out | apply below_alloc | apply pw_below_drewN | apply below_drew1) | exact HB.out)⟩⟩
      ·rw [if_neg c8] at H
       exact absurd H (by simp)
    ·replace c5 := Bool.eq_false_iff.mpr c5
     subst c5
     have H1 : (if x5_1.length < 5864062014805 then (tremaref01_Decode.l0 k1 l0 false (x5_1 ++ [(⟨t267, x6_1, t268⟩ : S75)]) (wrap64 (x6_1 + t268))) else (none)) = some r := by rw [if_neg (show ¬ (false = true) by decide)] at H; exact H
     clear H
     have H := H1
     clear H1
     by_cases c11 : x5_1.length < 5864062014805
     ·rw [if_pos c11] at H
      have LMc11 := Aside0.mk c11
      clear c11
      obtain ⟨y273, hy273⟩ : ∃ y_ : List (S75), y_ = (x5_1 ++ [(⟨t267, x6_1, t268⟩ : S75)]) := ⟨_, rfl⟩
      replace H : (tremaref01_Decode.l0 k1 l0 false y273 (wrap64 (x6_1 + t268))) = some r := by first | (rw [hy273]; with_reducible exact H) | (have H2_ := (Option.bind_some _ _).symm.trans H; rw [hy273]; with_reducible exact H2_) | (have H2_ := (Option.bind_some _ _).symm.trans H; with_reducible exact H2_) | with_reducible exact H | (rw [hy273]; exact H) | exact H
      have Ny273 := Aside0.mk hy273
      clear hy273
      have H' := Aside0.mk H
      clear H
      go_wp2_with (first | ((with_reducible refine gate_callee (f := 81) rfl ?_); refine goesL_ (some 17) rfl rfl Tryd.func81 (by kernel_rfl) rfl #[.slice A0 l0.length c0, .int .i64 x6_1] rfl (by (try simp only [List.map_toArray, List.map_cons, List.map_nil]); first | done | rfl | (simp only [List.length_drop, List.length_take]; rfl)) ?_; (with_reducible refine (tremaref01_At.calls k1 _ _ l0 x6_1 t267 t268 t269 _ ?side1 ?side2 A4.out).mono ?_); (case side1 => repeat (first | exact (Kd.C_below HR0.out HB.out) | (with_reducible refine Kd.C_alloc ?_ _) | (with_reducible refine Kd.C_drewN ?_ _) | (with_reducible refine Kd.C_drew ?_))); (case side2 => exact HC0.out); rintro e w12 ⟨rfl, hb⟩; refine ⟨_, rfl, ?_⟩; have n0_ := Aside0.mk (Kd.R_below (by (with_reducible repeat (first | apply Kd.R_alloc | apply Kd.R_drewN | apply Kd.R_drew)); exact HO_5.out) hb); have n1_ := Aside0.mk (below_step (by repeat (first | (with_reducible first | exact HB.out | apply below_alloc | apply pw_below_drewN | apply below_drew1) | exact HB.out)) hb); clear HO_5; clear HB; have HO_5 := n0_; have HB := n1_; clear n0_ n1_; (try clear hb); (try clear hb2); (try clear hk); (try clear hi)) | ((with_reducible refine gate_builtin (b := .append) (xs := #[.tmp 26, .tmp 31]) rfl ?_); at_builtin; refine Kd.R_append k75 (w0 := w) w.heap.size rfl (.tmp 26) (.tmp 31) 72 75 (.agg #[(.int .i32 0), (.int .i64 0), (.int .i64 0)]) 24 rfl Tryd.underlying72 info75 rfl (by decide) (by omega) u5 x5_1 (⟨t267, x6_1, t268⟩ : S75) [.int .i32 t267, .int .i64 x6_1, .int .i64 t268] (fun _ => True) (fun _ => False) rfl rfl ?aP (fun _ hk => hk.elim) ?aF ?aO ?aB ?aS ?aL ?_; (case aP => exact k75_mkM _ _ _ (⟨t267, x6_1, t268⟩ : S75)); (case aB => exact (by repeat (first | (with_reducible first | exact HB.out | apply below_alloc | apply pw_below_drewN | apply below_drew1) | exact HB.out))); (case aF => exact (fun _ _ => trivial)); (case aO => exact (by (with_reducible repeat (first | apply Kd.R_alloc | apply Kd.R_drewN | apply Kd.R_drew)); exact HO_5.out)); (case aS => exact (below_size (by repeat (first | (with_reducible first | exact HB.out | apply below_alloc | apply pw_below_drewN | apply below_drew1) | exact HB.out)))); (case aL => have := LMc11.out; omega); intro v274 w13 ho hb hg hat; rw [← Ny273.out] at ho; have n0_ := Aside0.mk (hb); have n1_ := Aside0.mk (ho); clear HB; clear HO_5; have HB := n0_; have HO275 := n1_; clear n0_ n1_; clear ho hb hg hat))
      go_roundg k1
      case measure => have := HK1.out; omega
      case rel => exact ⟨(y273), (wrap64 (x6_1 + t268)), (by first | rfl | (simp; done) | (simp [*]; done)), H', ⟨by have := HK1.out; omega⟩, ⟨by (with_reducible repeat (first | apply Kd.R_alloc | apply Kd.R_drewN | apply Kd.R_drew)); exact HO275.out⟩, ⟨by repeat (first | (with_reducible first | exact HB.out | apply below_alloc | apply pw_below_drewN | apply below_drew1) | exact HB.out)⟩⟩
     ·rw [if_neg c11] at H
      exact absurd H (by simp)
   ·rw [if_neg c3] at H
    have c3b0 : decide (x6_1 < (l0.length : Int)) = false := decide_eq_false c3
    clear c3
    obtain rfl := Option.some.inj H
    go_wp2
    go_ret
    exact ⟨_, by first | rfl | (simp [errW_none, errW_some] <;> rfl) | (simp [*, errW_none, errW_some] <;> rfl), by (with_reducible repeat (first | apply Kd.R_alloc | apply Kd.R_drewN | apply Kd.R_drew)); exact HO_5.out, by repeat (first | (with_reducible first | exact HB.out | apply below_alloc | apply pw_below_drewN | apply below_drew1) | exact HB.out)⟩
end Go.Proofs.YtiggjbclbdikmaaDoor.X
namespace Go.Proofs.YtiggjbclbdikmaaDoor.Ux
set_option linter.unusedVariables false
set_option linter.unusedSimpArgs false
open Go.RowKit Go.Proofs.YtiggjbclbdikmaaDoorW.PrintWords Go.Proofs.YtiggjbclbdikmaaDoor.Hp Go.Proofs.YtiggjbclbdikmaaDoor.X
def bnd (c : Int) : Option (List (Int × Int)) :=
  if c < 128 then some []
  else if c < 194 ∨ 244 < c then none
  else if c < 224 then some [(128, 191)]
  else if c < 240 then some [(if c = 224 then 160 else 128, if c = 237 then 159 else 191), (128, 191)]
  else some [(if c = 240 then 144 else 128, if c = 244 then 143 else 191), (128, 191), (128, 191)]
def st (c : Int) : Int := if c < 128 then c else if c < 224 then c % 32 else if c < 240 then c % 16 else c % 8
def cont : List (Int × Int) → List Int → Int → Int → Int × Int × Bool
  | [], _, r, i => (r, i, false)
  | _ :: _, [], _, i => (65533, i, true)
  | (lo, hi) :: bs, x :: t, r, i => if x < lo ∨ hi < x then (65533, i, false) else cont bs t (r * 64 + x % 64) (i + 1)
def one1 (c : Int) (t : List Int) : Int × Int × Bool :=
  match bnd c with
  | none => (65533, 1, false)
  | some bs => cont bs t (st c) 1
def Bytes (l : List Int) : Prop := ∀ x, x ∈ l → 0 ≤ x ∧ x ≤ 255
theorem cont_width : ∀ (bs : List (Int × Int)) (t : List Int) (r i : Int), i ≤ (cont bs t r i).2.1 ∧ (cont bs t r i).2.1 ≤ i + bs.length ∧ (cont bs t r i).2.1 ≤ i + t.length
  | [], t, r, i => by simp [cont]; omega
  | b :: bs, [], r, i => by simp [cont]; omega
  | (lo, hi) :: bs, x :: t, r, i => by
    simp only [cont]
    split
    · simp; omega
    · have := cont_width bs t (r * 64 + x % 64) (i + 1)
      simp only [List.length_cons]
      omega
theorem bnd_len {c : Int} {bs : List (Int × Int)} (h : bnd c = some bs) : bs.length ≤ 3 := by
  unfold bnd at h
  split at h
  · cases h; decide
  · split at h
    · cases h
    · split at h
      · cases h; simp
      · split at h
        · cases h; simp
        · cases h; simp
theorem one1_width (c : Int) (t : List Int) : 1 ≤ (one1 c t).2.1 ∧ (one1 c t).2.1 ≤ 4 ∧ (one1 c t).2.1 ≤ 1 + t.length := by
  unfold one1
  cases h : bnd c with
  | none => simp; omega
  | some bs =>
    have h1 := cont_width bs t (st c) 1
    have h2 := bnd_len h
    simp only
    omega
theorem rd_at (l : List Int) (i : Nat) (h : i < l.length) : rd l (i : Int) = l[i] := by simp [rd, List.getD_eq_getElem?_getD, h]
theorem step_r (r x : Int) (h0 : 0 ≤ r) (hr : (r + 1) * 64 ≤ 2097152) (hx : 0 ≤ x ∧ x ≤ 255) : bits .or .i32 (wrap32 (r * 64)) (wrap32 (bits .and .u8 x 63)) = r * 64 + x % 64 := by
  have ea : wrap32 (r * 64) = r * 64 := by unfold wrap32; omega
  have eb : wrap32 (bits .and .u8 x 63) = x % 64 := by rw [u8_and63 x hx.1 (by omega)]; unfold wrap32; omega
  rw [ea, eb]
  exact i32_or6 (r * 64) (x % 64) (by omega) (by omega) (by omega) (by omega) (by omega)
theorem step_p {r x : Int} {p : Nat} (h0 : 0 ≤ r) (hp : 1 ≤ p) (hr : (r + 1) * (64 * p : Nat) ≤ 2097152) : (r + 1) * 64 ≤ 2097152 ∧ (r * 64 + x % 64 + 1) * (p : Int) ≤ 2097152 := by
  have e : ((64 * p : Nat) : Int) = 64 * (p : Int) := by push_cast; rfl
  rw [e, ← Int.mul_assoc] at hr
  have h1 : (r + 1) * 64 * 1 ≤ (r + 1) * 64 * (p : Int) := Int.mul_le_mul_of_nonneg_left (by omega) (by omega)
  have h2 : (r * 64 + x % 64 + 1) * (p : Int) ≤ (r + 1) * 64 * (p : Int) := Int.mul_le_mul_of_nonneg_right (by omega) (by omega)
  exact ⟨by omega, Int.le_trans h2 hr⟩
theorem loop_cont (l : List Int) (hb : Bytes l) (hl : l.length ≤ 140737488355328) : ∀ (bs : List (Int × Int)) (k i : Nat) (r lo hi : Int), (∀ b, b ∈ bs.tail → b = (128, 191)) → (∀ b, bs.head? = some b → b = (lo, hi)) → bs.length < k → 0 ≤ r → (r + 1) * (64 ^ bs.length : Nat) ≤ 2097152 → i ≤ l.length →
    utf_one.l0 k l r ((i : Int) + bs.length) lo hi i = some (cont bs (l.drop i) r i)
  | [], k, i, r, lo, hi, _, _, hk, _, _, _ => by
    obtain ⟨k, rfl⟩ : ∃ m, k = m + 1 := ⟨k - 1, by omega⟩
    simp only [utf_one.l0, List.length_nil]
    rw [if_neg (by omega)]
    simp [cont]
  | (lo', hi') :: bs, k, i, r, lo, hi, ht, hh, hk, h0, hr, hi1 => by
    obtain ⟨k, rfl⟩ : ∃ m, k = m + 1 := ⟨k - 1, by omega⟩
    have e := hh _ rfl
    injection e with e1 e2
    subst e1
    subst e2
    simp only [List.length_cons] at hk hr ⊢
    simp only [utf_one.l0]
    rw [if_pos (by omega)]
    by_cases he : i = l.length
    · rw [if_pos (by omega), List.drop_eq_nil_of_le (by omega)]
      simp [cont]
    · have hlt : i < l.length := by omega
      rw [if_neg (by omega), if_pos (by omega), if_pos (by omega), rd_at l i hlt, List.drop_eq_getElem_cons hlt]
      have hx := hb l[i] (List.getElem_mem hlt)
      obtain ⟨x, hxe⟩ : ∃ x, x = l[i] := ⟨_, rfl⟩
      rw [← hxe] at hx ⊢
      simp only [cont]
      by_cases h1 : x < lo'
      · rw [if_pos h1, if_pos (.inl h1)]
      · rw [if_neg h1]
        by_cases h2 : x > hi'
        · rw [if_pos h2, if_pos (.inr h2)]
        · rw [if_neg h2, if_neg (by omega)]
          have hp := step_p (x := x) h0 (Nat.one_le_pow bs.length 64 (by omega)) (by rw [Nat.pow_succ, Nat.mul_comm] at hr; exact hr)
          have ew : wrap64 ((i : Int) + 1) = ((i + 1 : Nat) : Int) := by clear hr hp; unfold wrap64; omega
          have ei : ((i : Int) + ((bs.length + 1 : Nat) : Int)) = (((i + 1 : Nat) : Int) + (bs.length : Int)) := by clear hr hp; omega
          rw [step_r r x h0 hp.1 hx, ew, ei]
          have h0' : 0 ≤ r * 64 + x % 64 := by clear hr hp; omega
          have ih := loop_cont l hb hl bs k (i + 1) (r * 64 + x % 64) 128 191 (fun b hb => ht b (List.mem_of_mem_tail hb)) (fun b hb2 => ht b (List.mem_of_mem_head? hb2)) (by clear hr hp; omega) h0' hp.2 (by clear hr hp; omega)
          rw [ih]
          push_cast
          rfl
theorem lead_some (c : Int) (h : 0 ≤ c ∧ c ≤ 255) : ∃ lo hi, utf_lead.f 8 c = some ((match bnd c with | none => 0 | some bs => (bs.length : Int) + 1), (match bnd c with | none => 0 | some _ => st c), lo, hi) ∧ ∀ b, (bnd c).bind List.head? = some b → b = (lo, hi) := by
  unfold utf_lead.f bnd st
  by_cases h1 : c < 128
  · simp only [if_pos h1]
    refine ⟨128, 191, ?_, by simp⟩
    have : wrap32 c = c := by unfold wrap32; omega
    simp [this]
  · simp only [if_neg h1]
    by_cases h2 : c < 194
    · simp only [if_pos h2, if_pos (show c < 194 ∨ 244 < c from .inl h2), utf_lead.j0, if_true]
      exact ⟨_, _, rfl, by simp⟩
    · simp only [if_neg h2]
      by_cases h3 : c > 244
      · simp only [if_pos (show c < 194 ∨ 244 < c from .inr h3), decide_eq_true h3, utf_lead.j0, if_true]
        exact ⟨_, _, rfl, by simp⟩
      · simp only [if_neg (show ¬ (c < 194 ∨ 244 < c) by omega), decide_eq_false h3, utf_lead.j0, Bool.false_eq_true, if_false]
        have e31 : wrap32 (bits .and .u8 c 31) = c % 32 := by rw [u8_and31 c h.1 (by omega)]; unfold wrap32; omega
        have e15 : wrap32 (bits .and .u8 c 15) = c % 16 := by rw [u8_and15 c h.1 (by omega)]; unfold wrap32; omega
        have e7 : wrap32 (bits .and .u8 c 7) = c % 8 := by rw [u8_and7 c h.1 (by omega)]; unfold wrap32; omega
        rw [e31, e15, e7]
        by_cases h4 : c < 224
        · simp only [if_pos h4]
          exact ⟨_, _, rfl, by simp⟩
        · simp only [if_neg h4]
          by_cases h5 : c < 240
          · simp only [if_pos h5]
            by_cases h6 : c = 224
            · simp only [if_pos h6]
              exact ⟨_, _, rfl, by subst h6; simp⟩
            · simp only [if_neg h6]
              by_cases h7 : c = 237
              · simp only [if_pos h7]
                exact ⟨_, _, rfl, by subst h7; simp⟩
              · simp only [if_neg h7]
                exact ⟨_, _, rfl, by simp⟩
          · simp only [if_neg h5]
            by_cases h6 : c = 240
            · simp only [if_pos h6]
              exact ⟨_, _, rfl, by subst h6; simp⟩
            · simp only [if_neg h6]
              by_cases h7 : c = 244
              · simp only [if_pos h7]
                exact ⟨_, _, rfl, by subst h7; simp⟩
              · simp only [if_neg h7]
                exact ⟨_, _, rfl, by simp⟩
theorem bnd_tail {c : Int} {bs : List (Int × Int)} (h : bnd c = some bs) : ∀ b, b ∈ bs.tail → b = (128, 191) := by
  unfold bnd at h
  split at h
  · cases h; simp
  · split at h
    · cases h
    · split at h
      · cases h; simp
      · split at h
        · cases h; simp
        · cases h; simp
theorem st_bound {c : Int} {bs : List (Int × Int)} (hc : 0 ≤ c ∧ c ≤ 255) (h : bnd c = some bs) : 0 ≤ st c ∧ (st c + 1) * (64 ^ bs.length : Nat) ≤ 2097152 := by
  unfold bnd at h
  unfold st
  split at h
  · rename_i h1; cases h; rw [if_pos h1]; simp; omega
  · rename_i h1
    rw [if_neg h1]
    split at h
    · cases h
    · split at h
      · rename_i h2; cases h; rw [if_pos h2]; simp; omega
      · rename_i h2
        rw [if_neg h2]
        split at h
        · rename_i h3; cases h; rw [if_pos h3]; simp; omega
        · rename_i h3; cases h; rw [if_neg h3]; simp; omega
theorem one_pure (c : Int) (t : List Int) (hb : Bytes (c :: t)) (hl : (c :: t).length ≤ 140737488355328) : utf_one.f 8 (c :: t) = some (one1 c t) := by
  have hc := hb c List.mem_cons_self
  obtain ⟨lo, hi, hlead, hhead⟩ := lead_some c hc
  unfold utf_one.f
  rw [if_pos (by simp), show rd (c :: t) 0 = c from rfl, hlead]
  simp only [Option.bind_some, one1]
  cases h : bnd c with
  | none => simp
  | some bs =>
    simp only
    rw [if_neg (by omega)]
    have := loop_cont (c :: t) hb hl bs 8 1 (st c) lo hi (bnd_tail h) (fun b hb2 => hhead b (by rw [h]; exact hb2)) (by have := bnd_len h; omega) (st_bound hc h).1 (st_bound hc h).2 (by simp)
    rw [show (bs.length : Int) + 1 = ((1 : Nat) : Int) + bs.length by omega]
    simpa using this
end Go.Proofs.YtiggjbclbdikmaaDoor.Ux
namespace Go.Proofs.YtiggjbclbdikmaaDoor.Ux
set_option linter.unusedVariables false
set_option linter.unusedSimpArgs false
open Go.RowKit Go.Proofs.YtiggjbclbdikmaaDoorW.PrintWords Go.Proofs.YtiggjbclbdikmaaDoor.Hp Go.Proofs.YtiggjbclbdikmaaDoor.X
def flat : List (Int × Int) → List Int
  | [] => []
  | (a, b) :: l => a :: b :: flat l
theorem flat_len : ∀ bs, (flat bs).length = 2 * bs.length
  | [] => rfl
  | (a, b) :: l => by simp [flat, flat_len l]; omega
def fold (r : Int) (l : List Int) : Int := l.foldl (fun r x => r * 64 + x % 64) r
def fin (l : List Int) (at_ : Nat) (c : Int) (bs : List (Int × Int)) (m : Nat) : Int × Int × Bool :=
  if m < bs.length then (65533, 1 + (m : Int), decide (at_ + 1 + m = l.length)) else (fold (st c) ((l.drop (at_ + 1)).take m), 1 + (m : Int), false)
end Go.Proofs.YtiggjbclbdikmaaDoor.Ux
namespace Go.Proofs.YtiggjbclbdikmaaDoor.Ux
set_option linter.unusedVariables false
set_option linter.unusedSimpArgs false
open Go.RowKit Go.Proofs.YtiggjbclbdikmaaDoorW.PrintWords Go.Proofs.YtiggjbclbdikmaaDoor.Hp Go.Proofs.YtiggjbclbdikmaaDoor.X
def dec : Nat → List Int → Int → List S75 × List Int × Int
  | 0, b, p => ([], b, p)
  | _ + 1, [], p => ([], [], p)
  | k + 1, c :: t, p =>
    if (one1 c t).2.2 = true then ([], c :: t, p)
    else ((⟨(one1 c t).1, p, (one1 c t).2.1⟩ : S75) :: (dec k ((c :: t).drop (one1 c t).2.1.toNat) (p + (one1 c t).2.1)).1, (dec k ((c :: t).drop (one1 c t).2.1.toNat) (p + (one1 c t).2.1)).2)
def dc (b : List Int) (p : Int) : List S75 × List Int × Int := dec b.length b p
def rest1 (b : List Int) (p : Int) : List S75 := if b = [] then [] else [⟨65533, p, b.length⟩]
def full (b : List Int) : List S75 := (dc b 0).1 ++ rest1 (dc b 0).2.1 (dc b 0).2.2
theorem drop_lt (c : Int) (t : List Int) : ((c :: t).drop (one1 c t).2.1.toNat).length ≤ t.length := by
  have := one1_width c t
  rw [List.length_drop, List.length_cons]
  omega
theorem dec_more : ∀ (k : Nat) (b : List Int) (p : Int), b.length ≤ k → dec k b p = dc b p
  | 0, [], p, _ => rfl
  | 0, c :: t, p, h => by simp at h
  | k + 1, [], p, _ => rfl
  | k + 1, c :: t, p, h => by
    have hd := drop_lt c t
    have h' : t.length ≤ k := by simpa using h
    unfold dc
    rw [List.length_cons]
    simp only [dec]
    rw [dec_more k _ _ (by omega), dec_more t.length _ _ hd]
theorem dc_nil (p : Int) : dc [] p = ([], [], p) := rfl
theorem dc_cons (c : Int) (t : List Int) (p : Int) : dc (c :: t) p = if (one1 c t).2.2 = true then ([], c :: t, p) else ((⟨(one1 c t).1, p, (one1 c t).2.1⟩ : S75) :: (dc ((c :: t).drop (one1 c t).2.1.toNat) (p + (one1 c t).2.1)).1, (dc ((c :: t).drop (one1 c t).2.1.toNat) (p + (one1 c t).2.1)).2) := by
  rw [dc, List.length_cons]
  simp only [dec]
  rw [dec_more t.length _ _ (drop_lt c t)]
theorem dc_ind {P : List Int → Int → Prop} (h0 : ∀ p, P [] p) (h1 : ∀ c t p, (one1 c t).2.2 = true → P (c :: t) p) (h2 : ∀ c t p, (one1 c t).2.2 = false → P ((c :: t).drop (one1 c t).2.1.toNat) (p + (one1 c t).2.1) → P (c :: t) p) : ∀ b p, P b p := by
  intro b
  induction hn : b.length using Nat.strongRecOn generalizing b with
  | _ n ih =>
    intro p
    cases b with
    | nil => exact h0 p
    | cons c t =>
      cases hm : (one1 c t).2.2 with
      | true => exact h1 c t p hm
      | false =>
        have hd := drop_lt c t
        exact h2 c t p hm (ih _ (by rw [← hn, List.length_cons]; omega) _ rfl _)
theorem dc_len (b : List Int) (p : Int) : (dc b p).2.2 + (dc b p).2.1.length = p + b.length ∧ (dc b p).1.length + (dc b p).2.1.length ≤ b.length ∧ (dc b p).2.1.length ≤ b.length := by
  refine dc_ind (P := fun b p => (dc b p).2.2 + (dc b p).2.1.length = p + b.length ∧ (dc b p).1.length + (dc b p).2.1.length ≤ b.length ∧ (dc b p).2.1.length ≤ b.length) ?_ ?_ ?_ b p
  · intro p; simp [dc_nil]
  · intro c t p h; rw [dc_cons, if_pos h]; simp
  · intro c t p h ih
    have hw := one1_width c t
    rw [dc_cons, if_neg (by simp [h])]
    simp only [List.length_drop, List.length_cons] at ih ⊢
    omega
theorem cont_more : ∀ (bs : List (Int × Int)) (t : List Int) (r i : Int), (cont bs t r i).2.2 = true → (cont bs t r i).1 = 65533 ∧ (cont bs t r i).2.1 = i + t.length ∧ t.length < bs.length
  | [], t, r, i, h => by simp [cont] at h
  | b :: bs, [], r, i, h => by simp [cont]
  | (lo, hi) :: bs, x :: t, r, i, h => by
    simp only [cont] at h ⊢
    split
    · rename_i hc; rw [if_pos hc] at h; simp at h
    · rename_i hc
      rw [if_neg hc] at h
      have := cont_more bs t _ _ h
      simp only [List.length_cons]
      refine ⟨this.1, by rw [this.2.1]; push_cast; omega, by omega⟩
theorem one1_more (c : Int) (t : List Int) (h : (one1 c t).2.2 = true) : (one1 c t).1 = 65533 ∧ (one1 c t).2.1 = 1 + t.length ∧ t.length < 3 := by
  unfold one1 at h ⊢
  cases hb : bnd c with
  | none => rw [hb] at h; simp at h
  | some bs =>
    rw [hb] at h
    have h1 := cont_more bs t _ _ h
    have h2 := bnd_len hb
    exact ⟨h1.1, h1.2.1, by omega⟩
theorem dc_rest (b : List Int) (p : Int) : (dc b p).2.1.length ≤ 3 ∧ (dc (dc b p).2.1 (dc b p).2.2) = ([], (dc b p).2.1, (dc b p).2.2) := by
  refine dc_ind (P := fun b p => (dc b p).2.1.length ≤ 3 ∧ (dc (dc b p).2.1 (dc b p).2.2) = ([], (dc b p).2.1, (dc b p).2.2)) ?_ ?_ ?_ b p
  · intro p; simp [dc_nil]
  · intro c t p h
    have h3 := one1_more c t h
    rw [dc_cons, if_pos h]
    simp only [List.length_cons]
    exact ⟨by omega, by rw [dc_cons, if_pos h]⟩
  · intro c t p h ih
    rw [dc_cons, if_neg (by simp [h])]
    exact ih
theorem bytes_drop {l : List Int} (h : Bytes l) (n : Nat) : Bytes (l.drop n) := fun x hx => h x (List.mem_of_mem_drop hx)
end Go.Proofs.YtiggjbclbdikmaaDoor.Ux
