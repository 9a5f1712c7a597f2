/-
  Several texts of this claim in one: what its law's proof uses.
-/
import Derived.Test.YtiggjbclbdikmaaDoorMQ1
import Derived.Test.YtiggjbclbdikmaaDoorMQ0
import Derived.WalkSpells
import Derived.WalkLawsBesides
import Derived.Laws.RangeString
namespace Go.Proofs.YtiggjbclbdikmaaDoor.Vd
set_option linter.unusedVariables false
set_option linter.unusedSimpArgs false
open Go.RowKit Go.Proofs.YtiggjbclbdikmaaDoorW.PrintWords Go.Proofs.YtiggjbclbdikmaaDoor.Hp Go.Proofs.YtiggjbclbdikmaaDoor.Va Go.Proofs.YtiggjbclbdikmaaDoor.Vc
def decF : Nat → Int → List Int
  | 0, r => [r]
  | k + 1, r => if (pairU r).2.2 = 0 then [r] else if (pairU r).2.2 = 1 then decF k (pairU r).1 else decF k (pairU r).1 ++ decF k (pairU r).2.1
def okF : Nat → Int → Bool
  | 0, _ => false
  | k + 1, r => if (pairU r).2.2 = 0 then true else if (pairU r).2.2 = 1 then okF k (pairU r).1 else okF k (pairU r).1 && okF k (pairU r).2.1
def keys : List Int := (List.range 192).map (fun i : Nat => (192 : Int) + (i : Int)) ++ prsT.map (·.1)
theorem prsF_none (r : Int) : ∀ l : List (Int × Int × Int), r ∉ l.map (·.1) → prsF r l = (0, 0, 0)
  | [], _ => rfl
  | p :: t, h => by
    simp only [List.map_cons, List.mem_cons, not_or] at h
    rw [prsF, if_neg (fun e => h.1 e.symm), prsF_none r t h.2]
theorem pair_zero (r : Int) (hs : ¬ (44032 ≤ r ∧ r ≤ 55203)) (hk : r ∉ keys) : pairU r = (0, 0, 0) := by
  unfold keys at hk
  rw [List.mem_append, not_or] at hk
  have h1 : ¬ (192 ≤ r ∧ r < 384) := fun h => hk.1 (List.mem_map.2 ⟨(r - 192).toNat, List.mem_range.2 (by omega), by omega⟩)
  unfold pairU
  rw [if_neg hs, if_neg (by omega), if_pos (by omega)]
  exact prsF_none r _ hk.2
theorem syl_pair (s : Nat) (hs : s ≤ 11171) : pairU (44032 + (s : Int)) = if s % 28 = 0 then (4352 + ((s / 588 : Nat) : Int), 4449 + ((s % 588 / 28 : Nat) : Int), 2) else (44032 + (s : Int) - ((s % 28 : Nat) : Int), 4519 + ((s % 28 : Nat) : Int), 2) := by
  have e1 : 44032 + (s : Int) - 44032 = (s : Int) := by omega
  unfold pairU
  rw [if_pos ⟨by omega, by omega⟩, e1]
  by_cases h : s % 28 = 0
  · rw [if_pos (by omega), if_pos h]
    congr 1
  · rw [if_neg (by omega), if_neg h]
    congr 1
theorem cases3 (r : Int) : r ∈ keys ∨ (∃ s : Nat, s ≤ 11171 ∧ r = 44032 + (s : Int)) ∨ pairU r = (0, 0, 0) := by
  by_cases hk : r ∈ keys
  · exact .inl hk
  · by_cases hs : 44032 ≤ r ∧ r ≤ 55203
    · exact .inr (.inl ⟨(r - 44032).toNat, by omega, by omega⟩)
    · exact .inr (.inr (pair_zero r hs hk))
theorem jamo_none : ∀ k ∈ keys, k < 4352 ∨ 4546 < k := by decide +kernel
theorem jamo_zero (r : Int) (h : 4352 ≤ r ∧ r ≤ 4546) : pairU r = (0, 0, 0) := pair_zero r (by omega) (fun hk => by have := jamo_none r hk; omega)
theorem keys_pair : ∀ k ∈ keys, (0 ≤ (pairU k).1 ∧ (pairU k).1 < 65536) ∧ (0 ≤ (pairU k).2.1 ∧ (pairU k).2.1 < 65536) ∧ (0 ≤ (pairU k).2.2 ∧ (pairU k).2.2 < 3) ∧ okF 4 k = true := by decide +kernel
theorem okF_zero (k : Nat) (r : Int) (h : pairU r = (0, 0, 0)) : okF (k + 1) r = true := by rw [okF, h]; rfl
theorem decF_zero (k : Nat) (r : Int) (h : pairU r = (0, 0, 0)) : decF k r = [r] := by cases k with
  | zero => rfl
  | succ k => rw [decF, h]; rfl
theorem syl_lv (s : Nat) (hs : s ≤ 11171) (ht : s % 28 = 0) (k : Nat) : okF (k + 2) (44032 + (s : Int)) = true ∧ decF (k + 1) (44032 + (s : Int)) = [4352 + ((s / 588 : Nat) : Int), 4449 + ((s % 588 / 28 : Nat) : Int)] := by
  have h := syl_pair s hs
  rw [if_pos ht] at h
  have z1 := jamo_zero (4352 + ((s / 588 : Nat) : Int)) (by omega)
  have z2 := jamo_zero (4449 + ((s % 588 / 28 : Nat) : Int)) (by omega)
  rw [okF, decF, h]
  simp only [okF_zero _ _ z1, okF_zero _ _ z2, decF_zero _ _ z1, decF_zero _ _ z2]
  exact ⟨rfl, rfl⟩
theorem syl_all (s : Nat) (hs : s ≤ 11171) (k : Nat) : okF (k + 3) (44032 + (s : Int)) = true ∧ decF (k + 2) (44032 + (s : Int)) = [4352 + ((s / 588 : Nat) : Int), 4449 + ((s % 588 / 28 : Nat) : Int)] ++ if s % 28 = 0 then [] else [4519 + ((s % 28 : Nat) : Int)] := by
  by_cases ht : s % 28 = 0
  · have := syl_lv s hs ht (k + 1)
    rw [if_pos ht, List.append_nil]
    exact this
  · have h := syl_pair s hs
    rw [if_neg ht] at h ⊢
    have h1 := syl_lv (s - s % 28) (by omega) (by omega) k
    have z2 := jamo_zero (4519 + ((s % 28 : Nat) : Int)) (by omega)
    rw [show 44032 + ((s - s % 28 : Nat) : Int) = 44032 + (s : Int) - ((s % 28 : Nat) : Int) by omega, show (s - s % 28) / 588 = s / 588 by omega, show (s - s % 28) % 588 / 28 = s % 588 / 28 by omega] at h1
    rw [okF, decF, h]
    simp only [h1.1, h1.2, okF_zero _ _ z2, decF_zero _ _ z2]
    exact ⟨rfl, rfl⟩
theorem okAll (r : Int) : okF 4 r = true := by
  rcases cases3 r with h | ⟨s, hs, rfl⟩ | h
  · exact (keys_pair r h).2.2.2
  · exact (syl_all s hs 1).1
  · exact okF_zero _ _ h
def decU (r : Int) : List Int := decF 4 r
theorem pair_range (r : Int) : (0 ≤ (pairU r).1 ∧ (pairU r).1 < 65536) ∧ (0 ≤ (pairU r).2.1 ∧ (pairU r).2.1 < 65536) ∧ (0 ≤ (pairU r).2.2 ∧ (pairU r).2.2 < 3) := by
  rcases cases3 r with h | ⟨s, hs, rfl⟩ | h
  · have := keys_pair r h
    exact ⟨this.1, this.2.1, this.2.2.1⟩
  · rw [syl_pair s hs]
    split <;> simp only <;> omega
  · rw [h]; simp
theorem decF_len : ∀ (k : Nat) (r : Int), (decF k r).length ≤ 2 ^ k
  | 0, _ => by simp [decF]
  | k + 1, r => by
    have h1 := decF_len k (pairU r).1
    have h2 := decF_len k (pairU r).2.1
    have h3 : 0 < 2 ^ k := Nat.two_pow_pos k
    rw [decF, Nat.pow_succ]
    split
    · simp; omega
    · split
      · omega
      · rw [List.length_append]; omega
abbrev K3 : Kd Int := Kd.int .i32
theorem info_3 : (Tryd.prog.info? 21).map (fun i => (i.zero, i.size, i.bytes)) = some (some (.int .i32 0), 1, 4) := by kernel_rfl
theorem K3_KM {w w' : World} {base : Nat} {ok : Nat → Prop} (x : Int) (cs : List Value) (h : K3.K w x cs) : K3.M w' base ok x cs := h
def NewR (w : World) (l : List Int) (e : Ending) (w' : World) : Prop := ∃ v, e = .returned v ∧ K3.R 21 w' w.heap.size (fun _ => True) v l ∧ Below w.heap.size w w'
theorem lit1 {w : World} {B : Nat} (hB : B ≤ w.heap.size) (a : Int) : K3.R 21 (w.alloc (.cells #[.int .i32 a] 21)) B (fun _ => True) (.slice (some ⟨w.heap.size, 0, none⟩) 1 1) [a] := by
  refine ⟨fun _ _ => trivial, [.int .i32 a], ?_, Reps.one (show Kd.M K3 _ _ _ a [.int .i32 a] from rfl) (Reps.none _ _)⟩
  have h2 := World.ownsRow_lit (base := B) (e := 21) (size := 1) w #[.int .i32 a] 1 hB (by decide) rfl
  exact h2
set_option maxRecDepth 100000 in
set_option maxHeartbeats 1000000 in
theorem DecF : ∀ (k : Nat) (_ : k ≤ 4) (w : World) (_ : G w) (r : Int) (_ : -2147483648 ≤ r ∧ r ≤ 2147483647) (_ : okF k r = true), Calls Tryd.prog 53 #[.int .i32 r] w (NewR w (decF k r)) := by
  intro k
  induction k with
  | zero => intro hk4 w hG r hr ho; exact absurd ho (by simp [okF])
  | succ k ih =>
    intro hk4 w hG r hr ho
    have HG := Aside0.mk hG
    have HO := Aside0.mk ho
    have HI := Aside0.mk (ih (by omega))
    have HR := Aside0.mk hr
    have HP := Aside0.mk (pair_range r)
    have HD := Aside0.mk (show decF (k + 1) r = if (pairU r).2.2 = 0 then [r] else if (pairU r).2.2 = 1 then decF k (pairU r).1 else decF k (pairU r).1 ++ decF k (pairU r).2.1 from rfl)
    have HO1 := Aside0.mk (show okF (k + 1) r = if (pairU r).2.2 = 0 then true else if (pairU r).2.2 = 1 then okF k (pairU r).1 else okF k (pairU r).1 && okF k (pairU r).2.1 from rfl)
    clear hG ho ih hr
    have hPP := PairP w HG.out r HR.out
    unfold PairPost at hPP
    obtain ⟨⟨a, b, n⟩, hp⟩ : ∃ p, p = pairU r := ⟨_, rfl⟩
    rw [← hp] at hPP HP HD HO1
    have HPP := Aside0.mk hPP
    clear hPP hp
    simp only at HPP HP HD HO1
    obtain ⟨HP⟩ := HP
    obtain ⟨⟨a0, a1⟩, ⟨b0, b1⟩, n0, n1⟩ := HP
    by_cases h0 : n = 0
    · subst h0
      rw [HD.out, if_pos rfl]
      clear HD HO1 HO
      go_enter Tryd.func53, Tryd.ntmps53
      go_wp2_with (first | (go_at_call 75; go_must (refine HPP.out.mono ?_; rintro e w1 ⟨rfl, p1⟩; have P1 := Aside0.mk p1; clear p1)))
      go_ret
      exact ⟨_, rfl, lit1 P1.out.size r, below_then P1.out P1.out.size (below_alloc (Below.refl _ _) _)⟩
    · by_cases h1 : n = 1
      · subst h1
        have e0 : ((1 : Int) == 0) = false := rfl
        rw [HD.out, if_neg (by decide), if_pos rfl]
        have HO2 := Aside0.mk (show okF k a = true by have h := HO1.out; rw [if_neg (by decide), if_pos rfl] at h; rw [← h]; exact HO.out)
        clear HD HO1 HO
        go_enter Tryd.func53, Tryd.ntmps53
        go_wp2_with (first | (go_at_call 75; go_must (refine HPP.out.mono ?_; rintro e w1 ⟨rfl, p1⟩; have P1 := Aside0.mk p1; clear p1)) | (go_at_call 53; go_must (refine (HI.out w1 (HG.out.below P1.out) a ⟨by omega, by omega⟩ HO2.out).mono ?_; rintro e w2 ⟨v2, rfl, r2, p2⟩; have R2 := Aside0.mk r2; have P2 := Aside0.mk p2; clear r2 p2)))
        go_ret
        exact ⟨_, rfl, Kd.R_lower R2.out P1.out.size, below_then P1.out P1.out.size P2.out⟩
      · have h2 : n = 2 := by omega
        subst h2
        rw [HD.out, if_neg (by decide), if_neg (by decide)]
        have HO2 := Aside0.mk (show okF k a = true ∧ okF k b = true by have h := HO1.out; rw [if_neg (by decide), if_neg (by decide)] at h; rw [← Bool.and_eq_true, ← h]; exact HO.out)
        clear HD HO1 HO
        have la := decF_len k a
        have lb := decF_len k b
        obtain ⟨x, hx⟩ : ∃ x, x = decF k a := ⟨_, rfl⟩
        obtain ⟨y, hy⟩ : ∃ y, y = decF k b := ⟨_, rfl⟩
        have HL := Aside0.mk (show x.length + y.length ≤ 1000 by rw [hx, hy]; have := Nat.pow_le_pow_right (n := 2) (by decide) (show k ≤ 4 by omega); omega)
        have HA := Aside0.mk (fun w2 h => HI.out w2 h a ⟨by omega, by omega⟩ HO2.out.1)
        have HB := Aside0.mk (fun w2 h => HI.out w2 h b ⟨by omega, by omega⟩ HO2.out.2)
        rw [← hx] at HA ⊢
        rw [← hy] at HB ⊢
        clear hx hy la lb
        go_enter Tryd.func53, Tryd.ntmps53
        go_wp2_with (first | (go_at_call 75; go_must (refine HPP.out.mono ?_; rintro e w1 ⟨rfl, p1⟩; have P1 := Aside0.mk p1; clear p1)) | (go_at_call 53; refine (HA.out w1 (HG.out.below P1.out)).mono ?_; rintro e w2 ⟨v2, rfl, r2, p2⟩; have R2 := Aside0.mk r2; have P2 := Aside0.mk (below_then P1.out P1.out.size p2); clear r2 p2 HA) | (go_at_call 53; go_must (refine (HB.out w2 (HG.out.below P2.out)).mono ?_; rintro e w3 ⟨v3, rfl, r3, p3⟩; obtain ⟨A3, c3, rfl, hc3, hC3⟩ := Kd.R_reads r3; have C3 := Aside0.mk hC3; have R3 := Aside0.mk (Kd.R_below (Kd.R_lower R2.out P1.out.size) p3); have P3 := Aside0.mk (below_then P2.out P2.out.size p3); clear r3 p3 hC3)) | (at_builtin; go_must (refine Kd.R_append_rows K3 (Rr := K3.K w3) (w0 := w) w.heap.size rfl (.tmp 22) (.tmp 24) 22 21 (.int .i32 0) 4 rfl Tryd.underlying22 info_3 rfl (by decide) (by decide) v2 x y A3 _ c3 (fun _ => True) (fun _ => False) rfl rfl R3.out C3.out (fun x cs h => K3_KM x cs h) (fun _ h => h.elim) (fun _ _ => trivial) P3.out P3.out.size ?hl ?hh)))
        case hl => have := HL.out; omega
        case hh =>
          intro v1 w4 hR hb4 hg4 hat4
          have R4 := Aside0.mk hR
          have P4 := Aside0.mk hb4
          clear hR hb4 hg4 hat4
          go_wp2
          go_ret
          exact ⟨_, rfl, R4.out, P4.out⟩
theorem DecP (w : World) (hG : G w) (r : Int) (hr : -2147483648 ≤ r ∧ r ≤ 2147483647) : Calls Tryd.prog 53 #[.int .i32 r] w (NewR w (decU r)) := DecF 4 (by decide) w hG r hr (okAll r)
end Go.Proofs.YtiggjbclbdikmaaDoor.Vd
namespace Go.Proofs.YtiggjbclbdikmaaDoor.X
open Go.RowKit Go.Proofs.YtiggjbclbdikmaaDoorW.PrintWords
def ucd_Decompose.f (a0 : Int) : Option (List Int) := if -2147483648 ≤ a0 ∧ a0 ≤ 2147483647 then some (Vd.decU a0) else none
theorem ucd_Decompose.calls (a0 : Int) (r : List Int) (w : World) (h : ucd_Decompose.f a0 = some r) (hG0 : Va.G w) : Calls Tryd.prog 53 #[.int .i32 a0] w fun e w' => ∃ v0_ : Value, e = .returned (v0_) ∧ Kd.R (Kd.int .i32) 21 w' w.heap.size (fun _ => True) v0_ r ∧ Below w.heap.size w w' := by
  unfold ucd_Decompose.f at h
  split at h
  · rename_i hr
    obtain rfl := Option.some.inj h
    exact Vd.DecP w hG0 a0 hr
  · cases h
end Go.Proofs.YtiggjbclbdikmaaDoor.X
namespace Go.Proofs.YtiggjbclbdikmaaDoor.Fr
set_option linter.unusedVariables false
set_option linter.unusedSimpArgs false
open Go.RowKit Go.Proofs.YtiggjbclbdikmaaDoorW.PrintWords Go.Proofs.YtiggjbclbdikmaaDoorW.PrintLast Go.Proofs.YtiggjbclbdikmaaDoorW.PrintMore Go.Proofs.YtiggjbclbdikmaaDoor.Hp Go.Proofs.YtiggjbclbdikmaaDoor.Va Go.Proofs.YtiggjbclbdikmaaDoor.Vd Go.Proofs.YtiggjbclbdikmaaDoor.Na Go.Proofs.YtiggjbclbdikmaaDoor.Nb Go.Proofs.YtiggjbclbdikmaaDoor.Nc Go.Proofs.YtiggjbclbdikmaaDoor.Ns Go.Proofs.YtiggjbclbdikmaaDoor.Ng Go.Proofs.YtiggjbclbdikmaaDoor.X
abbrev TF : Nat := 79
abbrev T3 : Nat := 21
abbrev K3 : Kd Int := Kd.int .i32
def sure (l : List Int) : Nat := (l.reverse.dropWhile (fun x => cls x != 0)).length
theorem sure_of {l : List Int} {N : Nat} (hN : N ≤ l.length) (h : ∀ x ∈ l.drop N, cls x ≠ 0) (hz : N = 0 ∨ ∃ P z, l.take N = P ++ [z] ∧ cls z = 0) : sure l = N := by
  unfold sure
  have h1 : l.reverse = (l.drop N).reverse ++ (l.take N).reverse := by rw [← List.reverse_append, List.take_append_drop]
  rw [h1, List.dropWhile_append_of_pos (fun x hx => by simpa using h x (by simpa using hx))]
  rcases hz with rfl | ⟨P, z, h2, hz⟩
  · simp
  · have h3 : (l.take N).reverse = z :: P.reverse := by rw [h2]; simp
    rw [h3, List.dropWhile_cons_of_neg (by simp [hz]), ← h3, List.length_reverse, List.length_take]
    omega
def Row (w : World) (A : Option Addr) (c : Nat) (l : List Int) : Prop := (A = none ∧ l = [] ∧ c = 0) ∨ ∃ g post, A = some ⟨g, 0, none⟩ ∧ Reg w g [] post l ∧ l.length ≤ c ∧ c ≤ maxLen
theorem Row.C {w : World} {A : Option Addr} {c : Nat} {l : List Int} (h : Row w A c l) (hm : l.length ≤ 9223372036854775807) : K3.C w A l.length l := by
  refine rdC ⟨rfl, hm, fun hp => ?_⟩
  rcases h with ⟨_, rfl, _⟩ | ⟨g, post, rfl, hR, _, _⟩
  · simp at hp
  · refine ⟨_, rfl, fun j hj => ?_⟩
    have := hR.at_ j hj
    rw [add_plain]
    simpa using this
theorem OrdC (w : World) (hG : G w) (A : Option Addr) (c : Nat) (l : List Int) (h : Row w A c l) (h3 : ∀ ad, A = some ad → 3 ≤ ad.block) (n : Nat) (hn : n = l.length) (hn5 : n ≤ 1000000000000000) :
    Calls Tryd.prog 54 #[.slice A n c] w fun e w' => e = .returned (.slice A n c) ∧ Chg (fun b => ∃ ad, A = some ad ∧ b = ad.block) w w' ∧ Row w' A c (ordL l) := by
  rcases h with ⟨rfl, rfl, rfl⟩ | ⟨g, post, rfl, hR, hc, hm⟩
  · subst hn
    exact (OrdN w).mono fun e w' ⟨h1, h2⟩ => ⟨h1, h2.mono (fun _ _ h => h.elim), .inl ⟨rfl, rfl, rfl⟩⟩
  · refine (OrdP w hG g (h3 _ rfl) post l hR n c hn hn5 (by omega)).mono fun e w' ⟨h1, h2, h3⟩ => ⟨h1, h2.mono (fun k _ hk => ⟨_, rfl, hk⟩), .inr ⟨g, post, rfl, h3, ?_, hm⟩⟩
    rw [ordL_len]
    exact hc
def IsForm (g base : Nat) (kept : List Int) (closed : Bool) (ok : Nat → Prop) (w : World) : Prop :=
  ∃ kv, w.heap[g]? = some (.cells #[kv, .bool closed] TF (0, 0)) ∧ base ≤ g ∧ ok g ∧ K3.R T3 w base (fun b => ok b ∧ b ≠ g) kv kept
section
variable {g base : Nat} {kept : List Int} {closed : Bool} {ok ok' : Nat → Prop} {w w1 : World}
theorem IsForm.mono (h : IsForm g base kept closed ok w) (hok : ∀ k, ok k → ok' k) : IsForm g base kept closed ok' w := by
  obtain ⟨kv, h1, h2, h3, h4⟩ := h
  exact ⟨kv, h1, h2, hok _ h3, Kd.R_mono h4 (fun b hb => ⟨hok _ hb.1, hb.2⟩)⟩
theorem IsForm.step (h : IsForm g base kept closed ok w) (hm : ∀ k, ok k → k < w.heap.size → w1.heap[k]? = w.heap[k]?) : IsForm g base kept closed ok w1 := by
  obtain ⟨kv, h1, h2, h3, h4⟩ := h
  exact ⟨kv, (hm g h3 (blk_lt h1)).trans h1, h2, h3, Kd.R_step h4 (fun b hb hlt => hm b hb.1 hlt)⟩
theorem IsForm.below (h : IsForm g base kept closed ok w) (hb : Below w.heap.size w w1) : IsForm g base kept closed ok w1 := h.step (fun k _ hlt => hb.block k hlt)
theorem IsForm.chg {S : Nat → Prop} (h : IsForm g base kept closed ok w) (hc : Chg S w w1) (hd : ∀ k, ok k → ¬ S k) : IsForm g base kept closed ok w1 :=
  h.step (fun k hk hlt => hc.keep k hlt (hd k hk))
theorem IsForm.lt (h : IsForm g base kept closed ok w) : g < w.heap.size ∧ base ≤ g ∧ ok g := by
  obtain ⟨kv, h1, h2, h3, _⟩ := h
  exact ⟨blk_lt h1, h2, h3⟩
end
theorem NewF (w : World) : Calls Tryd.prog 30 #[] w fun e w' => ∃ g, e = .returned (.pointer (some ⟨g, 0, none⟩)) ∧ w.heap.size ≤ g ∧ IsForm g w.heap.size [] false (fun b => b = g) w' ∧ Below w.heap.size w w' := by
  have hfin : ∃ g, (.returned (.pointer (some ⟨w.heap.size, 0, none⟩)) : Ending) = .returned (.pointer (some ⟨g, 0, none⟩)) ∧ w.heap.size ≤ g ∧ IsForm g w.heap.size [] false (fun b => b = g) (w.alloc (.cells #[.slice none 0 0, .bool false] TF)) ∧ Below w.heap.size w (w.alloc (.cells #[.slice none 0 0, .bool false] TF)) :=
    ⟨w.heap.size, rfl, Nat.le_refl _, ⟨.slice none 0 0, heap_alloc_new w _, Nat.le_refl _, rfl, Kd.R_nil _ _ _ _ _⟩, below_alloc (Below.refl _ _) _⟩
  go_enter Tryd.func30, Tryd.ntmps30
  go_wp2
  go_ret
  exact hfin
theorem PendF (w : World) (g base : Nat) (kept : List Int) (closed : Bool) (ok : Nat → Prop) (h : IsForm g base kept closed ok w) :
    Calls Tryd.prog 33 #[.pointer (some ⟨g, 0, none⟩)] w fun e w' => e = .returned (.int .i64 (kept.length : Int)) ∧ w = w' := by
  obtain ⟨kv, h1, h2, h3, h4⟩ := h
  obtain ⟨A0, c0, rfl⟩ := Kd.R_slice h4
  have c1 : w.cell? ⟨g, 0, none⟩ = some (.slice A0 kept.length c0) := by simp [World.cell?, h1]
  clear h1 h2 h3 h4
  go_enter Tryd.func33, Tryd.ntmps33
  go_wp2
  go_ret
  exact ⟨rfl, rfl⟩
theorem Row.of {w : World} {base : Nat} {ok : Nat → Prop} {v : Value} {xs : List Int} (h : K3.R T3 w base ok v xs) : ∃ A c, v = .slice A xs.length c ∧ xs.length ≤ c ∧ Row w A c xs ∧ ∀ ad, A = some ad → base ≤ ad.block ∧ ok ad.block := by
  rcases Reg.of_row (n := 0) (c := 0) h with ⟨rfl, n, rfl, rfl⟩ | ⟨g, cap, post, rfl, h1, h2, h3, h4, h5⟩
  · exact ⟨none, 0, rfl, Nat.zero_le _, .inl ⟨rfl, rfl, rfl⟩, fun _ h => by cases h⟩
  · exact ⟨_, _, rfl, h1, .inr ⟨g, post, rfl, h5, h1, h2⟩, fun ad had => by cases had; exact ⟨h4, h.1 g rfl⟩⟩
theorem Row.chg {S : Nat → Prop} {w w' : World} {A : Option Addr} {c : Nat} {l : List Int} (h : Row w A c l) (hc : Chg S w w') (hS : ∀ ad, A = some ad → ¬ S ad.block) : Row w' A c l := by
  rcases h with h | ⟨g, post, rfl, hR, h1, h2⟩
  · exact .inl h
  · exact .inr ⟨g, post, rfl, hR.chg hc (hS _ rfl), h1, h2⟩
def ClosePost (w : World) (g base : Nat) (kept : List Int) (ok : Nat → Prop) (e : Ending) (w' : World) : Prop :=
  ∃ A c, e = .returned (.slice A kept.length c) ∧ kept.length ≤ c ∧ Row w' A c (ordL kept) ∧ (∀ ad, A = some ad → base ≤ ad.block ∧ ok ad.block ∧ ad.block ≠ g) ∧ IsForm g base [] true (fun b => b = g) w' ∧ Chg ok w w'
set_option maxHeartbeats 2000000 in
theorem Close (w : World) (hG : G w) (g base : Nat) (kept : List Int) (ok : Nat → Prop) (h : IsForm g base kept false ok w) (hb3 : 3 ≤ base) (hk : kept.length ≤ 1000000000000000) :
    Calls Tryd.prog 34 #[.pointer (some ⟨g, 0, none⟩)] w (ClosePost w g base kept ok) := by
  obtain ⟨kv, h1, h2, h3, h4⟩ := h
  obtain ⟨A, c, rfl, hc, hrow, hA⟩ := Row.of h4
  have c0 : w.cell? ⟨g, 0, none⟩ = some (.slice A kept.length c) := by simp [World.cell?, h1]
  have c1 : w.cell? ⟨g, 1, none⟩ = some (.bool false) := by simp [World.cell?, h1]
  have f1 : w.frozen? ⟨g, 1, none⟩ = false := by simp [World.frozen?, h1]
  have hb1 := blk_set h1 1 (.bool true)
  have c0' : (w.setCell ⟨g, 1, none⟩ (.bool true)).cell? ⟨g, 0, none⟩ = some (.slice A kept.length c) := by simp [World.cell?, hb1]
  have ch1 : Chg (fun b => b = g) w (w.setCell ⟨g, 1, none⟩ (.bool true)) := (Chg.refl (fun b => b = g) w).setCell (p := ⟨g, 1, none⟩) (.inl rfl) _
  have hcall := OrdC (w.setCell ⟨g, 1, none⟩ (.bool true)) (G_chg hG ch1 (fun k hk e => by omega)) A c kept (hrow.chg ch1 (fun ad e h => (hA ad e).2.2 h)) (fun ad e => Nat.le_trans hb3 (hA ad e).1) kept.length rfl hk
  obtain ⟨L, hL⟩ : ∃ L, L = kept.length := ⟨_, rfl⟩
  rw [← hL] at c0' hcall
  have HCall := Aside0.mk hcall
  have HB1 := Aside0.mk hb1
  have HC1 := Aside0.mk ch1
  have HA := Aside0.mk hA
  have HL := Aside0.mk hL
  have H23 := Aside0.mk (And.intro h2 (And.intro h3 hc))
  clear hG h1 h2 h3 h4 hc hrow hA c0 hb1 ch1 hcall hL hb3 hk
  go_enter Tryd.func34, Tryd.ntmps34
  go_upto_region 5 with (first | (go_at_call 54; go_must (refine HCall.out.mono ?_; rintro e w2 ⟨rfl, p1, p2⟩; have C2 := Aside0.mk p1; have R2 := Aside0.mk p2; clear p1 p2)))
  have hb2 : w2.heap[g]? = some (.cells #[.slice A L c, .bool true] TF (0, 0)) := by
    have h := C2.out.heap HB1.out (fun ⟨ad, e, h⟩ => (HA.out ad e).2.2 h.symm)
    rw [← HL.out] at h
    simpa using h
  have c2 : w2.cell? ⟨g, 0, none⟩ = some (.slice A L c) := by simp [World.cell?, hb2]
  have f2 : w2.frozen? ⟨g, 0, none⟩ = false := by simp [World.frozen?, hb2]
  have HB2 := Aside0.mk hb2
  clear hb2 c0' c1 f1
  go_wp2
  go_ret
  have ch3 : Chg (fun b => b = g) w2 (w2.setCell ⟨g, 0, none⟩ (.slice none 0 0)) := (Chg.refl (fun b => b = g) w2).setCell (p := ⟨g, 0, none⟩) (.inl rfl) _
  have e := HL.out
  subst e
  refine ⟨A, c, rfl, H23.out.2.2, R2.out.chg ch3 (fun ad e h => (HA.out ad e).2.2 h), fun ad e => ⟨(HA.out ad e).1, (HA.out ad e).2.1, (HA.out ad e).2.2⟩, ⟨_, by simpa using blk_set HB2.out 0 (.slice none 0 0), H23.out.1, rfl, Kd.R_nil _ _ _ _ _⟩, ?_⟩
  refine ((HC1.out.mono (S' := ok) fun k _ hk => ?_).trans C2.out fun k _ hk => ?_).trans ch3 fun k _ hk => ?_
  · rw [hk]; exact H23.out.2.1
  · obtain ⟨ad, e, rfl⟩ := hk; exact (HA.out ad e).2.1
  · rw [hk]; exact H23.out.2.1
end Go.Proofs.YtiggjbclbdikmaaDoor.Fr
namespace Go.Proofs.YtiggjbclbdikmaaDoor.X
open Go.RowKit Go.Proofs.YtiggjbclbdikmaaDoorW.PrintWords Go.Proofs.YtiggjbclbdikmaaDoorW.PrintLast Go.Proofs.YtiggjbclbdikmaaDoorW.PrintMore
attribute [local go_sem] max2_int min2_int max_two min_two max_three min_three max_four min_four   
set_option linter.unusedVariables false
set_option linter.unusedSimpArgs false
def tremaref01_SameRunes.l0 : Nat → List Int → List Int → Int → Option (Bool)
 | 0, _, _, _ => none
 | k + 1, x0, x1, x5 => if x5 < (x0.length : Int) then (if 0 ≤ x5 then (if x5 < (x1.length : Int) then (if (rd x0 x5) = (rd x1 x5) then (tremaref01_SameRunes.l0 k x0 x1 (wrap64 (x5 + 1))) else (some false)) else (none)) else (none)) else (some true)
def tremaref01_SameRunes.f (k : Nat) (l0 : List Int) (l1 : List Int) : Option (Bool) := if (l0.length : Int) = (l1.length : Int) then (tremaref01_SameRunes.l0 k l0 l1 0) else (some false)
theorem tremaref01_SameRunes.mono_l : ∀ k, (∀ y0 y1 y2, LeO (tremaref01_SameRunes.l0 k y0 y1 y2) (tremaref01_SameRunes.l0 (k + 1) y0 y1 y2))
 | 0 => fun _ _ _ r h => by simp [tremaref01_SameRunes.l0] at h
 | k + 1 => by
  have ih0 := tremaref01_SameRunes.mono_l k
  ·intro y0 y1 y2
   unfold tremaref01_SameRunes.l0
   repeat' first
   | (with_reducible exact ih0 _ _ _)
   | (with_reducible exact LeO.refl _)
   | (with_reducible exact LeO.none _)
   | (with_reducible refine LeO.ite ?_ ?_)
   | (with_reducible refine LeO.bind ?_ (fun _ => ?_))
   | exact ih0 _ _ _
   | exact LeO.none _
   | refine LeO.ite ?_ ?_
   | refine LeO.bind ?_ (fun _ => ?_)
theorem tremaref01_SameRunes.mono : ∀ a0 a1 k, LeO (tremaref01_SameRunes.f k a0 a1) (tremaref01_SameRunes.f (k + 1) a0 a1) := by
 intro a0 a1 k
 have ih0 := tremaref01_SameRunes.mono_l k
 unfold tremaref01_SameRunes.f
 repeat' first
   | (with_reducible exact ih0 _ _ _)
   | (with_reducible exact LeO.refl _)
   | (with_reducible exact LeO.none _)
   | (with_reducible refine LeO.ite ?_ ?_)
   | (with_reducible refine LeO.bind ?_ (fun _ => ?_))
   | exact ih0 _ _ _
   | exact LeO.none _
   | refine LeO.ite ?_ ?_
   | refine LeO.bind ?_ (fun _ => ?_)
set_option maxHeartbeats 8000000 in
set_option maxRecDepth 100000 in
theorem tremaref01_SameRunes.calls (k : Nat) (A0 : Option Addr) (c0 : Nat) (l0 : List Int) (A1 : Option Addr) (c1 : Nat) (l1 : List Int) (r : Bool) (w : World) (hr0 : Kd.C (Kd.int .i32) w A0 l0.length l0) (hc0 : l0.length ≤ c0) (hr1 : Kd.C (Kd.int .i32) w A1 l1.length l1) (hc1 : l1.length ≤ c1) (h : tremaref01_SameRunes.f k l0 l1 = some r) :
  Calls Tryd.prog 21 #[.slice A0 l0.length c0, .slice A1 l1.length c1] w fun e w' => e = .returned (.bool r) ∧ Drawn0 w w' := by
 have HR0 := Aside0.mk hr0
 have HC0 := Aside0.mk hc0
 clear hr0 hc0
 have HR1 := Aside0.mk hr1
 have HC1 := Aside0.mk hc1
 clear hr1 hc1
 have H : (if (l0.length : Int) = (l1.length : Int) then (tremaref01_SameRunes.l0 k l0 l1 0) else (some false)) = some r := h
 clear h
 by_cases c3 : (l0.length : Int) = (l1.length : Int)
 ·rw [if_pos c3] at H
  have c3b0 : ((l0.length : Int) == (l1.length : Int)) = true := beq_iff_eq.mpr c3
  have c3b1 : ((l0.length : Int) != (l1.length : Int)) = false := bne_eq_false_iff_eq.mpr c3
  have c3b2 : (l0.length == l1.length) = true := by first | simpa using c3 | (simp at c3 ⊢; omega)
  clear c3
  have H' := Aside0.mk H
  clear H
  go_enter Tryd.func21, Tryd.ntmps21
  go_wp2
  repeat (go_quiet (fail); try go_wp2)
  go_loopg [5] k (fun kq v5 w' => ∃ (x5_1 : Int), v5 = .int .i64 x5_1 ∧ Aside0 (tremaref01_SameRunes.l0 kq l0 l1 x5_1 = some r) ∧ Aside0 (kq ≤ k) ∧ Drawn0 w w')
  case atStart => exact ⟨(0), (by first | rfl | (simp; done) | (simp [*]; done)), H', ⟨Nat.le_refl _⟩, by repeat (first | exact Drawn0.refl _ | apply Drawn0.step)⟩
  case round =>
   clear H'
   try clear c1
   try clear c2
   try clear p2
   try clear c3
   try clear c3b0
   try clear c3b1
   try clear c3b2
   obtain ⟨x5_1, rfl, HA, HK1, ⟨m1, rfl⟩⟩ := hrel
   cases gk with
   | zero => exact absurd HA.out (by simp [tremaref01_SameRunes.l0])
   | succ k1 =>
    have H := HA.out
    clear HA
    simp only [tremaref01_SameRunes.l0] at H
    by_cases c4 : x5_1 < (l0.length : Int)
    ·rw [if_pos c4] at H
     have c4b0 : decide (x5_1 < (l0.length : Int)) = true := decide_eq_true c4
     clear c4
     by_cases c5 : 0 ≤ x5_1
     ·rw [if_pos c5] at H
      have c5b0 : decide (0 ≤ x5_1) = true := decide_eq_true c5
      clear c5
      by_cases c6 : x5_1 < (l1.length : Int)
      ·rw [if_pos c6] at H
       have c6b0 : decide (x5_1 < (l1.length : Int)) = true := decide_eq_true c6
       clear c6
       by_cases c7 : (rd l0 x5_1) = (rd l1 x5_1)
       ·rw [if_pos c7] at H
        have c7b0 : ((rd l0 x5_1) == (rd l1 x5_1)) = true := beq_iff_eq.mpr c7
        have c7b1 : ((rd l0 x5_1) != (rd l1 x5_1)) = false := bne_eq_false_iff_eq.mpr c7
        clear c7
        have H' := Aside0.mk H
        clear H
        have p162 : 0 ≤ (x5_1 : Int) := of_decide_eq_true (by first | (with_reducible assumption) | assumption)
        have q162 : x5_1 < (l0.length : Int) := of_decide_eq_true (by first | (with_reducible assumption) | assumption)
        obtain ⟨ad162, e162, hx162_0⟩ := Kd.at_int HR0.out x5_1 p162 q162
        cases e162
        replace p162 := eq_true p162
        replace q162 := eq_true q162
        have p163 : 0 ≤ (x5_1 : Int) := of_decide_eq_true (by first | (with_reducible assumption) | assumption)
        have q163 : x5_1 < (l1.length : Int) := of_decide_eq_true (by first | (with_reducible assumption) | assumption)
        obtain ⟨ad163, e163, hx163_0⟩ := Kd.at_int HR1.out x5_1 p163 q163
        cases e163
        replace p163 := eq_true p163
        replace q163 := eq_true q163
        go_wp2
        repeat (go_quiet (fail); try go_wp2)
        go_roundg k1
        case measure => have := HK1.out; omega
        case rel => exact ⟨(wrap64 (x5_1 + 1)), (by first | rfl | (simp; done) | (simp [*]; done)), H', ⟨by have := HK1.out; omega⟩, by repeat (first | exact Drawn0.refl _ | apply Drawn0.step)⟩
       ·rw [if_neg c7] at H
        have c7b0 : ((rd l0 x5_1) == (rd l1 x5_1)) = false := beq_eq_false_iff_ne.mpr c7
        have c7b1 : ((rd l0 x5_1) != (rd l1 x5_1)) = true := bne_iff_ne.mpr c7
        obtain rfl := Option.some.inj H
        have p162 : 0 ≤ (x5_1 : Int) := of_decide_eq_true (by first | (with_reducible assumption) | assumption)
        have q162 : x5_1 < (l0.length : Int) := of_decide_eq_true (by first | (with_reducible assumption) | assumption)
        obtain ⟨ad162, e162, hx162_0⟩ := Kd.at_int HR0.out x5_1 p162 q162
        cases e162
        replace p162 := eq_true p162
        replace q162 := eq_true q162
        have p163 : 0 ≤ (x5_1 : Int) := of_decide_eq_true (by first | (with_reducible assumption) | assumption)
        have q163 : x5_1 < (l1.length : Int) := of_decide_eq_true (by first | (with_reducible assumption) | assumption)
        obtain ⟨ad163, e163, hx163_0⟩ := Kd.at_int HR1.out x5_1 p163 q163
        cases e163
        replace p163 := eq_true p163
        replace q163 := eq_true q163
        go_wp2
        repeat (go_quiet (fail); try go_wp2)
        go_ret
        exact ⟨by first | rfl | (simp; done) | (simp [*]; done), by repeat (first | exact Drawn0.refl _ | apply Drawn0.step)⟩
      ·rw [if_neg c6] at H
       exact absurd H (by simp)
     ·rw [if_neg c5] at H
      exact absurd H (by simp)
    ·rw [if_neg c4] at H
     have c4b0 : decide (x5_1 < (l0.length : Int)) = false := decide_eq_false c4
     clear c4
     obtain rfl := Option.some.inj H
     go_wp2
     repeat (go_quiet (fail); try go_wp2)
     go_ret
     exact ⟨by first | rfl | (simp; done) | (simp [*]; done), by repeat (first | exact Drawn0.refl _ | apply Drawn0.step)⟩
 ·rw [if_neg c3] at H
  have c3b0 : ((l0.length : Int) == (l1.length : Int)) = false := beq_eq_false_iff_ne.mpr c3
  have c3b1 : ((l0.length : Int) != (l1.length : Int)) = true := bne_iff_ne.mpr c3
  have c3b2 : (l0.length == l1.length) = false := by first | simpa using c3 | (simp at c3 ⊢; omega)
  obtain rfl := Option.some.inj H
  go_enter Tryd.func21, Tryd.ntmps21
  go_wp2
  repeat (go_quiet (fail); try go_wp2)
  go_ret
  exact ⟨by first | rfl | (simp; done) | (simp [*]; done), by repeat (first | exact Drawn0.refl _ | apply Drawn0.step)⟩
end Go.Proofs.YtiggjbclbdikmaaDoor.X
namespace Go.Proofs.YtiggjbclbdikmaaDoor.X
open Go.RowKit Go.Proofs.YtiggjbclbdikmaaDoorW.PrintWords Go.Proofs.YtiggjbclbdikmaaDoorW.PrintLast Go.Proofs.YtiggjbclbdikmaaDoorW.PrintMore
attribute [local go_sem] max2_int min2_int max_two min_two max_three min_three max_four min_four   
set_option linter.unusedVariables false
set_option linter.unusedSimpArgs false
def ucd_Trailing.f (a0 : Int) : Option (Bool) := if a0 ≥ 4449 then (if a0 ≤ 4469 then (some true) else (if a0 ≥ 4520 then (some (decide (a0 ≤ 4546))) else (some false))) else (if a0 ≥ 4520 then (some (decide (a0 ≤ 4546))) else (some false))
set_option maxHeartbeats 8000000 in
set_option maxRecDepth 100000 in
theorem ucd_Trailing.calls (a0 : Int) (r : Bool) (w : World) (h : ucd_Trailing.f a0 = some r) :
  Calls Tryd.prog 94 #[.int .i32 a0] w fun e w' => e = .returned (.bool r) ∧ Drawn0 w w' := by
 have H : (if a0 ≥ 4449 then (if a0 ≤ 4469 then (some true) else (if a0 ≥ 4520 then (some (decide (a0 ≤ 4546))) else (some false))) else (if a0 ≥ 4520 then (some (decide (a0 ≤ 4546))) else (some false))) = some r := h
 clear h
 by_cases c2 : a0 ≥ 4449
 ·rw [if_pos c2] at H
  have c2b0 : decide (4449 ≤ a0) = true := decide_eq_true c2
  clear c2
  by_cases c3 : a0 ≤ 4469
  ·rw [if_pos c3] at H
   have c3b0 : decide (a0 ≤ 4469) = true := decide_eq_true c3
   clear c3
   obtain rfl := Option.some.inj H
   go_enter Tryd.func94, Tryd.ntmps94
   go_wp2
   go_ret
   exact ⟨by first | rfl | (simp; done) | (simp [*]; done), by repeat (first | exact Drawn0.refl _ | apply Drawn0.step)⟩
  ·rw [if_neg c3] at H
   have c3b0 : decide (a0 ≤ 4469) = false := decide_eq_false c3
   clear c3
   by_cases c4 : a0 ≥ 4520
   ·rw [if_pos c4] at H
    have c4b0 : decide (4520 ≤ a0) = true := decide_eq_true c4
    clear c4
    obtain rfl := Option.some.inj H
    go_enter Tryd.func94, Tryd.ntmps94
    go_wp2
    go_ret
    exact ⟨by first | rfl | (simp; done) | (simp [*]; done), by repeat (first | exact Drawn0.refl _ | apply Drawn0.step)⟩
   ·rw [if_neg c4] at H
    have c4b0 : decide (4520 ≤ a0) = false := decide_eq_false c4
    clear c4
    obtain rfl := Option.some.inj H
    go_enter Tryd.func94, Tryd.ntmps94
    go_wp2
    go_ret
    exact ⟨by first | rfl | (simp; done) | (simp [*]; done), by repeat (first | exact Drawn0.refl _ | apply Drawn0.step)⟩
 ·rw [if_neg c2] at H
  have c2b0 : decide (4449 ≤ a0) = false := decide_eq_false c2
  clear c2
  by_cases c5 : a0 ≥ 4520
  ·rw [if_pos c5] at H
   have c5b0 : decide (4520 ≤ a0) = true := decide_eq_true c5
   clear c5
   obtain rfl := Option.some.inj H
   go_enter Tryd.func94, Tryd.ntmps94
   go_wp2
   go_ret
   exact ⟨by first | rfl | (simp; done) | (simp [*]; done), by repeat (first | exact Drawn0.refl _ | apply Drawn0.step)⟩
  ·rw [if_neg c5] at H
   have c5b0 : decide (4520 ≤ a0) = false := decide_eq_false c5
   clear c5
   obtain rfl := Option.some.inj H
   go_enter Tryd.func94, Tryd.ntmps94
   go_wp2
   go_ret
   exact ⟨by first | rfl | (simp; done) | (simp [*]; done), by repeat (first | exact Drawn0.refl _ | apply Drawn0.step)⟩
end Go.Proofs.YtiggjbclbdikmaaDoor.X
namespace Go.Proofs.YtiggjbclbdikmaaDoor.Ve
set_option linter.unusedVariables false
set_option linter.unusedSimpArgs false
open Go.RowKit Go.Proofs.YtiggjbclbdikmaaDoorW.PrintWords Go.Proofs.YtiggjbclbdikmaaDoor.Hp Go.Proofs.YtiggjbclbdikmaaDoor.Va Go.Proofs.YtiggjbclbdikmaaDoor.Vc Go.Proofs.YtiggjbclbdikmaaDoor.Vd Go.Proofs.YtiggjbclbdikmaaDoor.X
def trl (r : Int) : Bool := decide (4449 ≤ r ∧ r ≤ 4469 ∨ 4520 ≤ r ∧ r ≤ 4546)
theorem trl_pure (r : Int) : ucd_Trailing.f r = some (trl r) := by
  unfold ucd_Trailing.f trl
  split
  · split
    · congr 1; symm; rw [decide_eq_true_eq]; omega
    · split
      · congr 1; rw [decide_eq_decide]; omega
      · congr 1; symm; rw [decide_eq_false_iff_not]; omega
  · split
    · congr 1; rw [decide_eq_decide]; omega
    · congr 1; symm; rw [decide_eq_false_iff_not]; omega
theorem TrailP (w : World) (r : Int) : Calls Tryd.prog 94 #[.int .i32 r] w fun e w' => e = .returned (.bool (trl r)) ∧ Below w.heap.size w w' :=
  (ucd_Trailing.calls r (trl r) w (trl_pure r)).mono fun _ _ h => ⟨h.1, h.2.below⟩
theorem decF_ne : ∀ (k : Nat) (r : Int), decF k r ≠ []
  | 0, _ => by simp [decF]
  | k + 1, r => by
    have := decF_ne k (pairU r).1
    rw [decF]
    split
    · simp
    · split
      · exact this
      · simp [this]
def opn (r : Int) : Bool := (cls ((decU r).getD 0 0) == 0) && !trl ((decU r).getD 0 0)
theorem intC {w : World} {A : Option Addr} {n : Nat} {xs : List Int} (h : K3.C w A n xs) (j : Nat) (hj : j < n) : ∃ ad, A = some ad ∧ w.cell? (ad.add j) = some (.int .i32 (xs.getD j 0)) := by
  have h1 := (rdint h).2.2 (by omega)
  obtain ⟨ad, h2, h3⟩ := h1
  exact ⟨ad, h2, h3 j hj⟩
theorem intC0 {w : World} {A : Option Addr} {n : Nat} {xs : List Int} (h : K3.C w A n xs) (hn : 0 < n) : ∃ ad, A = some ad ∧ w.cell? ad = some (.int .i32 (xs.getD 0 0)) := by
  obtain ⟨ad, h2, h3⟩ := intC h 0 hn
  exact ⟨ad, h2, h3⟩
set_option maxRecDepth 100000 in
set_option maxHeartbeats 1000000 in
theorem OpensP (w : World) (hG : G w) (r : Int) (hr : -2147483648 ≤ r ∧ r ≤ 2147483647) : Calls Tryd.prog 87 #[.int .i32 r] w fun e w' => e = .returned (.bool (opn r)) ∧ Below w.heap.size w w' := by
  have HG := Aside0.mk hG
  have HD := Aside0.mk (DecP w hG r hr)
  have HNE := Aside0.mk (decF_ne 4 r)
  have HO := Aside0.mk (show opn r = ((cls ((decU r).getD 0 0) == 0) && !trl ((decU r).getD 0 0)) from rfl)
  clear hG hr
  obtain ⟨l, hl⟩ : ∃ l, l = decU r := ⟨_, rfl⟩
  rw [show decF 4 r = decU r from rfl, ← hl] at HNE
  rw [← hl] at HD HO
  clear hl
  obtain ⟨n, hn⟩ : ∃ n, n = l.length := ⟨_, rfl⟩
  have hn0 : 0 < n := by rw [hn]; exact List.length_pos_iff.2 HNE.out
  obtain ⟨x, hx⟩ : ∃ x, x = l.getD 0 0 := ⟨_, rfl⟩
  rw [← hx] at HO
  have HN := Aside0.mk hn
  have HX := Aside0.mk hx
  clear hn hx
  cases hc : (cls x == 0) with
  | true =>
    rw [hc, Bool.true_and] at HO
    go_enter Tryd.func87, Tryd.ntmps87
    go_wp2_with (first | (go_at_call 53; go_must (refine HD.out.mono ?_; rintro e w1 ⟨v1, rfl, r1, p1⟩; obtain ⟨A1, c1, rfl, hc1, hC1⟩ := Kd.R_reads r1; have HB := Aside0.mk p1; rw [← HN.out] at hC1 ⊢; obtain ⟨ad, rfl, cell⟩ := intC0 hC1 hn0; rw [← HX.out] at cell; clear r1 p1 hC1 hc1)) | (go_at_call 62; go_must (refine (ClassP w1 (HG.out.below HB.out) x).mono ?_; rintro e w2 ⟨rfl, p2⟩; have HB2 := Aside0.mk (below_then HB.out HB.out.size p2); clear p2)) | (go_at_call 94; go_must (refine (TrailP w2 x).mono ?_; rintro e w3 ⟨rfl, p3⟩; have HB3 := Aside0.mk (below_then HB2.out HB2.out.size p3); clear p3)))
    go_ret
    exact ⟨by rw [HO.out]; rfl, HB3.out⟩
  | false =>
    rw [hc, Bool.false_and] at HO
    go_enter Tryd.func87, Tryd.ntmps87
    go_wp2_with (first | (go_at_call 53; go_must (refine HD.out.mono ?_; rintro e w1 ⟨v1, rfl, r1, p1⟩; obtain ⟨A1, c1, rfl, hc1, hC1⟩ := Kd.R_reads r1; have HB := Aside0.mk p1; rw [← HN.out] at hC1 ⊢; obtain ⟨ad, rfl, cell⟩ := intC0 hC1 hn0; rw [← HX.out] at cell; clear r1 p1 hC1 hc1)) | (go_at_call 62; go_must (refine (ClassP w1 (HG.out.below HB.out) x).mono ?_; rintro e w2 ⟨rfl, p2⟩; have HB2 := Aside0.mk (below_then HB.out HB.out.size p2); clear p2)))
    go_ret
    exact ⟨by rw [HO.out]; rfl, HB2.out⟩
theorem same_loop (l m : List Int) (hl : l.length ≤ 1000000000) (hlm : l.length = m.length) (d : Nat) : ∀ (i k : Nat), l.length - i = d → i ≤ l.length → d < k → tremaref01_SameRunes.l0 k l m i = some (decide (l.drop i = m.drop i)) := by
  induction d with
  | zero =>
    intro i k h1 h2 h3
    obtain ⟨k, rfl⟩ : ∃ q, k = q + 1 := ⟨k - 1, by omega⟩
    rw [tremaref01_SameRunes.l0, if_neg (by omega), List.drop_eq_nil_of_le (by omega), List.drop_eq_nil_of_le (by omega)]
    rfl
  | succ d ih =>
    intro i k h1 h2 h3
    obtain ⟨k, rfl⟩ : ∃ q, k = q + 1 := ⟨k - 1, by omega⟩
    have hlt : i < l.length := by omega
    have hlt2 : i < m.length := by omega
    have hih := ih (i + 1) k (by omega) (by omega) (by omega)
    have hw : wrap64 ((i : Int) + 1) = ((i + 1 : Nat) : Int) := by unfold wrap64; omega
    have c1 : (i : Int) < (l.length : Int) := by omega
    have c2 : (i : Int) < (m.length : Int) := by omega
    have c3 : 0 ≤ (i : Int) := by omega
    have e1 : rd l (i : Int) = l[i] := by simp [rd, List.getD_eq_getElem?_getD, List.getElem?_eq_getElem hlt]
    have e2 : rd m (i : Int) = m[i] := by simp [rd, List.getD_eq_getElem?_getD, List.getElem?_eq_getElem hlt2]
    rw [tremaref01_SameRunes.l0, if_pos c1, if_pos c3, if_pos c2, e1, e2, List.drop_eq_getElem_cons hlt, List.drop_eq_getElem_cons hlt2]
    by_cases h : l[i] = m[i]
    · rw [if_pos h, hw, hih]
      congr 1
      rw [decide_eq_decide]
      exact ⟨fun e => by rw [h, e], fun e => (List.cons.inj e).2⟩
    · rw [if_neg h]
      congr 1
      symm
      rw [decide_eq_false_iff_not]
      exact fun e => h (List.cons.inj e).1
theorem same_pure (l m : List Int) (hl : l.length ≤ 1000000000) : tremaref01_SameRunes.f (l.length + 1) l m = some (decide (l = m)) := by
  unfold tremaref01_SameRunes.f
  by_cases h : l.length = m.length
  · rw [if_pos (by omega)]
    have := same_loop l m hl h l.length 0 (l.length + 1) (by omega) (by omega) (by omega)
    simpa using this
  · rw [if_neg (by omega)]
    have : l ≠ m := fun e => h (by rw [e])
    simp [this]
end Go.Proofs.YtiggjbclbdikmaaDoor.Ve
namespace Go.Proofs.YtiggjbclbdikmaaDoor.X
open Go.RowKit Go.Proofs.YtiggjbclbdikmaaDoorW.PrintWords
def ucd_Opens.f (a0 : Int) : Option Bool := if -2147483648 ≤ a0 ∧ a0 ≤ 2147483647 then some (Ve.opn a0) else none
theorem ucd_Opens.calls (a0 : Int) (r : Bool) (w : World) (h : ucd_Opens.f a0 = some r) (hG0 : Va.G w) : Calls Tryd.prog 87 #[.int .i32 a0] w fun e w' => e = .returned (.bool r) ∧ Below w.heap.size w w' := by
  unfold ucd_Opens.f at h
  split at h
  · rename_i hr
    obtain rfl := Option.some.inj h
    exact Ve.OpensP w hG0 a0 hr
  · cases h
end Go.Proofs.YtiggjbclbdikmaaDoor.X
namespace Go.Proofs.YtiggjbclbdikmaaDoor.Ev0
set_option linter.unusedVariables false
set_option linter.unusedSimpArgs false
open Go.RowKit Go.Proofs.YtiggjbclbdikmaaDoorW.PrintWords
theorem w64 {i : Nat} (h : i < 4611686018427387904) : wrap64 ((i : Int) + 1) = ((i + 1 : Nat) : Int) := by unfold wrap64; omega
theorem rd_nat {l : List Int} {i : Nat} (h : i < l.length) : rd l (i : Int) = l[i] := by simp [rd, List.getD_eq_getElem?_getD, List.getElem?_eq_getElem h]
theorem ev_range {α : Type} {F : Nat → Int → Option α} {n : Nat} {r : α} (hend : Ev (fun k => F k (n : Int)) r) (hstep : ∀ i : Nat, i < n → Ev (fun k => F k ((i + 1 : Nat) : Int)) r → Ev (fun k => F k (i : Int)) r) : ∀ i : Nat, i ≤ n → Ev (fun k => F k (i : Int)) r := by
  have key : ∀ d i : Nat, i + d = n → Ev (fun k => F k (i : Int)) r := by
    intro d
    induction d with
    | zero => intro i h; obtain rfl : i = n := by omega
              exact hend
    | succ d ih => intro i h; exact hstep i (by omega) (ih (i + 1) (by omega))
  intro i h
  exact key (n - i) i (by omega)
end Go.Proofs.YtiggjbclbdikmaaDoor.Ev0
namespace Go.Proofs.YtiggjbclbdikmaaDoor.Vp0
set_option linter.unusedVariables false
set_option linter.unusedSimpArgs false
open Go.RowKit Go.Proofs.YtiggjbclbdikmaaDoorW.PrintWords Go.Proofs.YtiggjbclbdikmaaDoor.Ev0 Go.Proofs.YtiggjbclbdikmaaDoor.X Go.Proofs.YtiggjbclbdikmaaDoor.Va Go.Proofs.YtiggjbclbdikmaaDoor.Vc Go.Proofs.YtiggjbclbdikmaaDoor.Vd Go.Proofs.YtiggjbclbdikmaaDoor.Ve
theorem sameEv (l m : List Int) (hl : l.length ≤ 1000000000) : Ev (fun k => tremaref01_SameRunes.f k l m) (decide (l = m)) := Ev.of (tremaref01_SameRunes.mono l m) (same_pure l m hl)
def I32 (x : Int) : Prop := -2147483648 ≤ x ∧ x ≤ 2147483647
theorem dec_zero (r : Int) (h : pairU r = (0, 0, 0)) : decU r = [r] := decF_zero 4 r h
theorem opn_zero (r : Int) (h : pairU r = (0, 0, 0)) : opn r = ((cls r == 0) && !trl r) := by unfold opn; rw [dec_zero r h]; rfl
def botB (r : Int) : Bool := decide (1 ≤ (decU r).length ∧ (decU r).length ≤ 3) && (decU r).all (fun x => decide ((pairU x) = (0, 0, 0)) && decide (0 ≤ x ∧ x < 65536)) && ((decU r).drop 1).all (fun x => !opn x)
theorem bot_keys : ∀ r ∈ keys, botB r = true := by decide +kernel
theorem jamo_shut (r : Int) (h : 4449 ≤ r ∧ r ≤ 4469 ∨ 4520 ≤ r ∧ r ≤ 4546) : opn r = false := by
  rw [opn_zero r (jamo_zero r (by omega))]
  have : trl r = true := by unfold trl; exact decide_eq_true h
  rw [this]; simp
theorem syl_dec (s : Nat) (hs : s ≤ 11171) : decU (44032 + (s : Int)) = [4352 + ((s / 588 : Nat) : Int), 4449 + ((s % 588 / 28 : Nat) : Int)] ++ if s % 28 = 0 then [] else [4519 + ((s % 28 : Nat) : Int)] := (syl_all s hs 2).2
structure Bot (r : Int) : Prop where
  lo : 1 ≤ (decU r).length
  hi : (decU r).length ≤ 3
  zero : ∀ x ∈ decU r, pairU x = (0, 0, 0)
  rng : ∀ x ∈ decU r, I32 x
  shut : ∀ x ∈ (decU r).drop 1, opn x = false
theorem bottom (r : Int) (hr : I32 r) : Bot r := by
  rcases cases3 r with h | ⟨s, hs, rfl⟩ | h
  · have := bot_keys r h
    simp only [botB, Bool.and_eq_true, decide_eq_true_eq, List.all_eq_true, Bool.not_eq_true'] at this
    obtain ⟨⟨⟨h1, h2⟩, h3⟩, h4⟩ := this
    exact ⟨h1, h2, fun x hx => (h3 x hx).1, fun x hx => by have := (h3 x hx).2; unfold I32; omega, h4⟩
  · have hd := syl_dec s hs
    have z1 := jamo_zero (4352 + ((s / 588 : Nat) : Int)) (by omega)
    have z2 := jamo_zero (4449 + ((s % 588 / 28 : Nat) : Int)) (by omega)
    have z3 := jamo_zero (4519 + ((s % 28 : Nat) : Int)) (by omega)
    by_cases ht : s % 28 = 0
    · rw [if_pos ht, List.append_nil] at hd
      refine ⟨by rw [hd]; simp, by rw [hd]; simp, ?_, ?_, ?_⟩
      · rw [hd]; intro x hx; simp at hx; rcases hx with rfl | rfl; exact z1; exact z2
      · rw [hd]; intro x hx; simp at hx; unfold I32; rcases hx with rfl | rfl <;> omega
      · rw [hd]; intro x hx; simp at hx; subst hx; exact jamo_shut _ (by omega)
    · rw [if_neg ht] at hd
      refine ⟨by rw [hd]; simp, by rw [hd]; simp, ?_, ?_, ?_⟩
      · rw [hd]; intro x hx; simp at hx; rcases hx with rfl | rfl | rfl; exact z1; exact z2; exact z3
      · rw [hd]; intro x hx; simp at hx; unfold I32; rcases hx with rfl | rfl | rfl <;> omega
      · rw [hd]; intro x hx; simp at hx; rcases hx with rfl | rfl <;> exact jamo_shut _ (by omega)
  · have hd := dec_zero r h
    refine ⟨by rw [hd]; simp, by rw [hd]; simp, ?_, ?_, ?_⟩
    · rw [hd]; intro x hx; simp at hx; subst hx; exact h
    · rw [hd]; intro x hx; simp at hx; subst hx; exact hr
    · rw [hd]; simp
end Go.Proofs.YtiggjbclbdikmaaDoor.Vp0
namespace Go.Proofs.YtiggjbclbdikmaaDoor.X
open Go.RowKit Go.Proofs.YtiggjbclbdikmaaDoorW.PrintWords Go.Proofs.YtiggjbclbdikmaaDoorW.PrintLast Go.Proofs.YtiggjbclbdikmaaDoorW.PrintMore
attribute [local go_sem] max2_int min2_int max_two min_two max_three min_three max_four min_four   
set_option linter.unusedVariables false
set_option linter.unusedSimpArgs false
def tremaref02_in.f (a0 : Int) (a1 : Int) (a2 : Int) : Option (Bool) := if a1 ≤ a0 then (some (decide (a0 ≤ a2))) else (some false)
set_option maxHeartbeats 8000000 in
set_option maxRecDepth 100000 in
theorem tremaref02_in.calls (a0 : Int) (a1 : Int) (a2 : Int) (r : Bool) (w : World) (h : tremaref02_in.f a0 a1 a2 = some r) :
  Calls Tryd.prog 60 #[.int .i32 a0, .int .i32 a1, .int .i32 a2] w fun e w' => e = .returned (.bool r) ∧ Drawn0 w w' := by
 have H : (if a1 ≤ a0 then (some (decide (a0 ≤ a2))) else (some false)) = some r := h
 clear h
 by_cases c4 : a1 ≤ a0
 ·rw [if_pos c4] at H
  have c4b0 : decide (a1 ≤ a0) = true := decide_eq_true c4
  clear c4
  obtain rfl := Option.some.inj H
  go_enter Tryd.func60, Tryd.ntmps60
  go_wp2
  go_ret
  exact ⟨by first | rfl | (simp; done) | (simp [*]; done), by repeat (first | exact Drawn0.refl _ | apply Drawn0.step)⟩
 ·rw [if_neg c4] at H
  have c4b0 : decide (a1 ≤ a0) = false := decide_eq_false c4
  clear c4
  obtain rfl := Option.some.inj H
  go_enter Tryd.func60, Tryd.ntmps60
  go_wp2
  go_ret
  exact ⟨by first | rfl | (simp; done) | (simp [*]; done), by repeat (first | exact Drawn0.refl _ | apply Drawn0.step)⟩
end Go.Proofs.YtiggjbclbdikmaaDoor.X
namespace Go.Proofs.YtiggjbclbdikmaaDoor.X
open Go.RowKit Go.Proofs.YtiggjbclbdikmaaDoorW.PrintWords Go.Proofs.YtiggjbclbdikmaaDoorW.PrintLast Go.Proofs.YtiggjbclbdikmaaDoorW.PrintMore
attribute [local go_sem] max2_int min2_int max_two min_two max_three min_three max_four min_four   
set_option linter.unusedVariables false
set_option linter.unusedSimpArgs false
mutual
def tremaref02_Class.j1 : Nat → Int → Bool → Option (Int)
 | 0, _, _ => none
 | k + 1, x0, x3 => if x3 = true then (some 230) else ((tremaref02_in.f x0 789 789).bind fun t110 => (if t110 = true then (tremaref02_Class.j2 k x0 t110) else ((tremaref02_in.f x0 794 794).bind fun t111 => (tremaref02_Class.j2 k x0 t111))))
def tremaref02_Class.j2 : Nat → Int → Bool → Option (Int)
 | 0, _, _ => none
 | k + 1, x0, x20 => if x20 = true then (some 232) else ((tremaref02_in.f x0 790 793).bind fun t112 => (if t112 = true then (tremaref02_Class.j4 k x0 t112) else ((tremaref02_in.f x0 796 800).bind fun t113 => (if t113 = true then (tremaref02_Class.j4 k x0 t113) else ((tremaref02_in.f x0 803 806).bind fun t114 => (if t114 = true then (tremaref02_Class.j4 k x0 t114) else ((tremaref02_in.f x0 809 819).bind fun t115 => (if t115 = true then (tremaref02_Class.j3 k x0 true) else ((tremaref02_in.f x0 825 828).bind fun t116 => (tremaref02_Class.j3 k x0 t116))))))))))
def tremaref02_Class.j4 : Nat → Int → Bool → Option (Int)
 | 0, _, _ => none
 | k + 1, x0, x25 => if x25 = true then (some 220) else ((tremaref02_in.f x0 795 795).bind fun t120 => (if t120 = true then (some 216) else ((tremaref02_in.f x0 801 802).bind fun t121 => (if t121 = true then (tremaref02_Class.j5 k x0 t121) else ((tremaref02_in.f x0 807 808).bind fun t122 => (tremaref02_Class.j5 k x0 t122))))))
def tremaref02_Class.j5 : Nat → Int → Bool → Option (Int)
 | 0, _, _ => none
 | k + 1, x0, x47 => if x47 = true then (some 202) else ((tremaref02_in.f x0 820 824).bind fun t123 => (if t123 = true then (some 1) else ((tremaref02_in.f x0 837 837).bind fun t124 => (if t124 = true then (some 240) else ((tremaref02_in.f x0 12441 12442).bind fun t125 => (if t125 = true then (some 8) else (some 0)))))))
def tremaref02_Class.j3 : Nat → Int → Bool → Option (Int)
 | 0, _, _ => none
 | k + 1, x0, x25 => if x25 = true then (tremaref02_Class.j4 k x0 x25) else ((tremaref02_in.f x0 839 841).bind fun t117 => (if t117 = true then (tremaref02_Class.j4 k x0 t117) else ((tremaref02_in.f x0 845 846).bind fun t118 => (if t118 = true then (tremaref02_Class.j4 k x0 t118) else ((tremaref02_in.f x0 851 854).bind fun t119 => (tremaref02_Class.j4 k x0 t119))))))
def tremaref02_Class.j0 : Nat → Int → Bool → Option (Int)
 | 0, _, _ => none
 | k + 1, x0, x3 => if x3 = true then (tremaref02_Class.j1 k x0 x3) else ((tremaref02_in.f x0 855 855).bind fun t108 => (if t108 = true then (tremaref02_Class.j1 k x0 t108) else ((tremaref02_in.f x0 8400 8401).bind fun t109 => (tremaref02_Class.j1 k x0 t109))))
end
def tremaref02_Class.f (k : Nat) (a0 : Int) : Option (Int) := (tremaref02_in.f a0 768 788).bind fun t103 => (if t103 = true then (tremaref02_Class.j1 k a0 t103) else ((tremaref02_in.f a0 829 836).bind fun t104 => (if t104 = true then (tremaref02_Class.j1 k a0 t104) else ((tremaref02_in.f a0 838 838).bind fun t105 => (if t105 = true then (tremaref02_Class.j1 k a0 t105) else ((tremaref02_in.f a0 842 844).bind fun t106 => (if t106 = true then (tremaref02_Class.j0 k a0 true) else ((tremaref02_in.f a0 848 850).bind fun t107 => (tremaref02_Class.j0 k a0 t107)))))))))
theorem tremaref02_Class.mono_l : ∀ k, (∀ y0 y1, LeO (tremaref02_Class.j1 k y0 y1) (tremaref02_Class.j1 (k + 1) y0 y1)) ∧ (∀ y0 y1, LeO (tremaref02_Class.j2 k y0 y1) (tremaref02_Class.j2 (k + 1) y0 y1)) ∧ (∀ y0 y1, LeO (tremaref02_Class.j4 k y0 y1) (tremaref02_Class.j4 (k + 1) y0 y1)) ∧ (∀ y0 y1, LeO (tremaref02_Class.j5 k y0 y1) (tremaref02_Class.j5 (k + 1) y0 y1)) ∧ (∀ y0 y1, LeO (tremaref02_Class.j3 k y0 y1) (tremaref02_Class.j3 (k + 1) y0 y1)) ∧ (∀ y0 y1, LeO (tremaref02_Class.j0 k y0 y1) (tremaref02_Class.j0 (k + 1) y0 y1))
 | 0 => ⟨fun _ _ r h => by simp [tremaref02_Class.j1] at h, fun _ _ r h => by simp [tremaref02_Class.j2] at h, fun _ _ r h => by simp [tremaref02_Class.j4] at h, fun _ _ r h => by simp [tremaref02_Class.j5] at h, fun _ _ r h => by simp [tremaref02_Class.j3] at h, fun _ _ r h => by simp [tremaref02_Class.j0] at h⟩
 | k + 1 => by
  obtain ⟨ih0, ih1, ih2, ih3, ih4, ih5⟩ := tremaref02_Class.mono_l k
  refine ⟨?_, ?_, ?_, ?_, ?_, ?_⟩
  ·intro y0 y1
   unfold tremaref02_Class.j1
   repeat' first
   | (with_reducible exact ih0 _ _)
   | (with_reducible exact ih1 _ _)
   | (with_reducible exact ih2 _ _)
   | (with_reducible exact ih3 _ _)
   | (with_reducible exact ih4 _ _)
   | (with_reducible exact ih5 _ _)
   | (with_reducible exact LeO.refl _)
   | (with_reducible exact LeO.none _)
   | (with_reducible refine LeO.ite ?_ ?_)
   | (with_reducible refine LeO.bind ?_ (fun _ => ?_))
   | exact ih0 _ _
   | exact ih1 _ _
   | exact ih2 _ _
   | exact ih3 _ _
   | exact ih4 _ _
   | exact ih5 _ _
   | exact LeO.none _
   | refine LeO.ite ?_ ?_
   | refine LeO.bind ?_ (fun _ => ?_)
  ·intro y0 y1
   unfold tremaref02_Class.j2
   repeat' first
   | (with_reducible exact ih0 _ _)
   | (with_reducible exact ih1 _ _)
   | (with_reducible exact ih2 _ _)
   | (with_reducible exact ih3 _ _)
   | (with_reducible exact ih4 _ _)
   | (with_reducible exact ih5 _ _)
   | (with_reducible exact LeO.refl _)
   | (with_reducible exact LeO.none _)
   | (with_reducible refine LeO.ite ?_ ?_)
   | (with_reducible refine LeO.bind ?_ (fun _ => ?_))
   | exact ih0 _ _
   | exact ih1 _ _
   | exact ih2 _ _
   | exact ih3 _ _
   | exact ih4 _ _
   | exact ih5 _ _
   | exact LeO.none _
   | refine LeO.ite ?_ ?_
   | refine LeO.bind ?_ (fun _ => ?_)
  ·intro y0 y1
   unfold tremaref02_Class.j4
   repeat' first
   | (with_reducible exact ih0 _ _)
   | (with_reducible exact ih1 _ _)
   | (with_reducible exact ih2 _ _)
   | (with_reducible exact ih3 _ _)
   | (with_reducible exact ih4 _ _)
   | (with_reducible exact ih5 _ _)
   | (with_reducible exact LeO.refl _)
   | (with_reducible exact LeO.none _)
   | (with_reducible refine LeO.ite ?_ ?_)
   | (with_reducible refine LeO.bind ?_ (fun _ => ?_))
   | exact ih0 _ _
   | exact ih1 _ _
   | exact ih2 _ _
   | exact ih3 _ _
   | exact ih4 _ _
   | exact ih5 _ _
   | exact LeO.none _
   | refine LeO.ite ?_ ?_
   | refine LeO.bind ?_ (fun _ => ?_)
  ·intro y0 y1
   unfold tremaref02_Class.j5
   repeat' first
   | (with_reducible exact ih0 _ _)
   | (with_reducible exact ih1 _ _)
   | (with_reducible exact ih2 _ _)
   | (with_reducible exact ih3 _ _)
   | (with_reducible exact ih4 _ _)
   | (with_reducible exact ih5 _ _)
   | (with_reducible exact LeO.refl _)
   | (with_reducible exact LeO.none _)
   | (with_reducible refine LeO.ite ?_ ?_)
   | (with_reducible refine LeO.bind ?_ (fun _ => ?_))
   | exact ih0 _ _
   | exact ih1 _ _
   | exact ih2 _ _
   | exact ih3 _ _
   | exact ih4 _ _
   | exact ih5 _ _
   | exact LeO.none _
   | refine LeO.ite ?_ ?_
   | refine LeO.bind ?_ (fun _ => ?_)
  ·intro y0 y1
   unfold tremaref02_Class.j3
   repeat' first
   | (with_reducible exact ih0 _ _)
   | (with_reducible exact ih1 _ _)
   | (with_reducible exact ih2 _ _)
   | (with_reducible exact ih3 _ _)
   | (with_reducible exact ih4 _ _)
   | (with_reducible exact ih5 _ _)
   | (with_reducible exact LeO.refl _)
   | (with_reducible exact LeO.none _)
   | (with_reducible refine LeO.ite ?_ ?_)
   | (with_reducible refine LeO.bind ?_ (fun _ => ?_))
   | exact ih0 _ _
   | exact ih1 _ _
   | exact ih2 _ _
   | exact ih3 _ _
   | exact ih4 _ _
   | exact ih5 _ _
   | exact LeO.none _
   | refine LeO.ite ?_ ?_
   | refine LeO.bind ?_ (fun _ => ?_)
  ·intro y0 y1
   unfold tremaref02_Class.j0
   repeat' first
   | (with_reducible exact ih0 _ _)
   | (with_reducible exact ih1 _ _)
   | (with_reducible exact ih2 _ _)
   | (with_reducible exact ih3 _ _)
   | (with_reducible exact ih4 _ _)
   | (with_reducible exact ih5 _ _)
   | (with_reducible exact LeO.refl _)
   | (with_reducible exact LeO.none _)
   | (with_reducible refine LeO.ite ?_ ?_)
   | (with_reducible refine LeO.bind ?_ (fun _ => ?_))
   | exact ih0 _ _
   | exact ih1 _ _
   | exact ih2 _ _
   | exact ih3 _ _
   | exact ih4 _ _
   | exact ih5 _ _
   | exact LeO.none _
   | refine LeO.ite ?_ ?_
   | refine LeO.bind ?_ (fun _ => ?_)
theorem tremaref02_Class.mono : ∀ a0 k, LeO (tremaref02_Class.f k a0) (tremaref02_Class.f (k + 1) a0) := by
 intro a0 k
 obtain ⟨ih0, ih1, ih2, ih3, ih4, ih5⟩ := tremaref02_Class.mono_l k
 unfold tremaref02_Class.f
 repeat' first
   | (with_reducible exact ih0 _ _)
   | (with_reducible exact ih1 _ _)
   | (with_reducible exact ih2 _ _)
   | (with_reducible exact ih3 _ _)
   | (with_reducible exact ih4 _ _)
   | (with_reducible exact ih5 _ _)
   | (with_reducible exact LeO.refl _)
   | (with_reducible exact LeO.none _)
   | (with_reducible refine LeO.ite ?_ ?_)
   | (with_reducible refine LeO.bind ?_ (fun _ => ?_))
   | exact ih0 _ _
   | exact ih1 _ _
   | exact ih2 _ _
   | exact ih3 _ _
   | exact ih4 _ _
   | exact ih5 _ _
   | exact LeO.none _
   | refine LeO.ite ?_ ?_
   | refine LeO.bind ?_ (fun _ => ?_)
set_option maxHeartbeats 8000000 in
set_option maxRecDepth 100000 in
theorem tremaref02_Class.calls (k : Nat) (a0 : Int) (r : Int) (w : World) (h : tremaref02_Class.f k a0 = some r) :
  Calls Tryd.prog 29 #[.int .i32 a0] w fun e w' => e = .returned (.int .i64 r) ∧ Drawn0 w w' := by
 have H : ((tremaref02_in.f a0 768 788).bind fun t103 => (if t103 = true then (tremaref02_Class.j1 k a0 t103) else ((tremaref02_in.f a0 829 836).bind fun t104 => (if t104 = true then (tremaref02_Class.j1 k a0 t104) else ((tremaref02_in.f a0 838 838).bind fun t105 => (if t105 = true then (tremaref02_Class.j1 k a0 t105) else ((tremaref02_in.f a0 842 844).bind fun t106 => (if t106 = true then (tremaref02_Class.j0 k a0 true) else ((tremaref02_in.f a0 848 850).bind fun t107 => (tremaref02_Class.j0 k a0 t107)))))))))) = some r := h
 clear h
 replace H := Option.bind_eq_some_iff.mp H
 obtain ⟨t103, A20, H⟩ := H
 replace H : (if t103 = true then (tremaref02_Class.j1 k a0 t103) else ((tremaref02_in.f a0 829 836).bind fun t104 => (if t104 = true then (tremaref02_Class.j1 k a0 t104) else ((tremaref02_in.f a0 838 838).bind fun t105 => (if t105 = true then (tremaref02_Class.j1 k a0 t105) else ((tremaref02_in.f a0 842 844).bind fun t106 => (if t106 = true then (tremaref02_Class.j0 k a0 true) else ((tremaref02_in.f a0 848 850).bind fun t107 => (tremaref02_Class.j0 k a0 t107))))))))) = some r := H
 have A2 := Aside0.mk A20
 clear A20
 have HC3 := Aside0.mk H
 clear H
 go_enter Tryd.func29, Tryd.ntmps29
 go_upto_if 3 with (first | ((with_reducible refine gate_callee (f := 60) rfl ?_); refine goesL_ (some 5) rfl rfl Tryd.func60 (by kernel_rfl) rfl #[.int .i32 a0, .int .i32 768, .int .i32 788] rfl (by (try simp only [List.map_toArray, List.map_cons, List.map_nil]); first | done | rfl | (simp only [List.length_drop, List.length_take]; rfl)) ?_; (with_reducible refine (tremaref02_in.calls a0 768 788 t103 _ A2.out).mono ?_); rintro e w' ⟨rfl, ⟨nd, rfl⟩⟩; refine ⟨_, rfl, ?_⟩))
 (try simp only [Act.put, List.setIfInBounds_toArray, List.set_cons_zero, List.set_cons_succ])
 go_cut [3] (fun v3 wc => ∃ (kq : Nat) (x3_2 : Bool), v3 = .bool x3_2 ∧ Aside0 (tremaref02_Class.j1 kq a0 x3_2 = some r) ∧ Aside0 (kq ≤ k) ∧ Drawn0 w wc)
 case first =>
  have H := HC3.out
  clear HC3
  by_cases c4 : t103 = true
  ·subst c4
   have H1 : (tremaref02_Class.j1 k a0 true) = some r := by rw [if_pos rfl] at H; exact H
   clear H
   have H := H1
   clear H1
   have H' := Aside0.mk H
   clear H
   go_wp2
   go_meet
   case rel => exact ⟨_, (true), (by first | rfl | (simp; done) | (simp [*]; done)), H', ⟨by first | omega | exact Nat.le_refl _⟩, by repeat (first | exact Drawn0.refl _ | apply Drawn0.step)⟩
  ·replace c4 := Bool.eq_false_iff.mpr c4
   subst c4
   have H1 : ((tremaref02_in.f a0 829 836).bind fun t104 => (if t104 = true then (tremaref02_Class.j1 k a0 t104) else ((tremaref02_in.f a0 838 838).bind fun t105 => (if t105 = true then (tremaref02_Class.j1 k a0 t105) else ((tremaref02_in.f a0 842 844).bind fun t106 => (if t106 = true then (tremaref02_Class.j0 k a0 true) else ((tremaref02_in.f a0 848 850).bind fun t107 => (tremaref02_Class.j0 k a0 t107)))))))) = some r := by rw [if_neg (show ¬ (false = true) by decide)] at H; exact H
   clear H
   have H := H1
   clear H1
   replace H := Option.bind_eq_some_iff.mp H
   obtain ⟨t104, A50, H⟩ := H
   replace H : (if t104 = true then (tremaref02_Class.j1 k a0 t104) else ((tremaref02_in.f a0 838 838).bind fun t105 => (if t105 = true then (tremaref02_Class.j1 k a0 t105) else ((tremaref02_in.f a0 842 844).bind fun t106 => (if t106 = true then (tremaref02_Class.j0 k a0 true) else ((tremaref02_in.f a0 848 850).bind fun t107 => (tremaref02_Class.j0 k a0 t107))))))) = some r := H
   have A5 := Aside0.mk A50
   clear A50
   by_cases c6 : t104 = true
   ·subst c6
    have H1 : (tremaref02_Class.j1 k a0 true) = some r := by rw [if_pos rfl] at H; exact H
    clear H
    have H := H1
    clear H1
    have H' := Aside0.mk H
    clear H
    go_wp2_with (first | ((with_reducible refine gate_callee (f := 60) rfl ?_); refine goesL_ (some 7) rfl rfl Tryd.func60 (by kernel_rfl) rfl #[.int .i32 a0, .int .i32 829, .int .i32 836] rfl (by (try simp only [List.map_toArray, List.map_cons, List.map_nil]); first | done | rfl | (simp only [List.length_drop, List.length_take]; rfl)) ?_; (with_reducible refine (tremaref02_in.calls a0 829 836 true _ A5.out).mono ?_); rintro e w' ⟨rfl, ⟨nd, rfl⟩⟩; refine ⟨_, rfl, ?_⟩))
    go_meet
    case rel => exact ⟨_, (true), (by first | rfl | (simp; done) | (simp [*]; done)), H', ⟨by first | omega | exact Nat.le_refl _⟩, by repeat (first | exact Drawn0.refl _ | apply Drawn0.step)⟩
   ·replace c6 := Bool.eq_false_iff.mpr c6
    subst c6
    have H1 : ((tremaref02_in.f a0 838 838).bind fun t105 => (if t105 = true then (tremaref02_Class.j1 k a0 t105) else ((tremaref02_in.f a0 842 844).bind fun t106 => (if t106 = true then (tremaref02_Class.j0 k a0 true) else ((tremaref02_in.f a0 848 850).bind fun t107 => (tremaref02_Class.j0 k a0 t107)))))) = some r := by rw [if_neg (show ¬ (false = true) by decide)] at H; exact H
    clear H
    have H := H1
    clear H1
    replace H := Option.bind_eq_some_iff.mp H
    obtain ⟨t105, A70, H⟩ := H
    replace H : (if t105 = true then (tremaref02_Class.j1 k a0 t105) else ((tremaref02_in.f a0 842 844).bind fun t106 => (if t106 = true then (tremaref02_Class.j0 k a0 true) else ((tremaref02_in.f a0 848 850).bind fun t107 => (tremaref02_Class.j0 k a0 t107))))) = some r := H
    have A7 := Aside0.mk A70
    clear A70
    by_cases c8 : t105 = true
    ·subst c8
     have H1 : (tremaref02_Class.j1 k a0 true) = some r := by rw [if_pos rfl] at H; exact H
     clear H
     have H := H1
     clear H1
     have H' := Aside0.mk H
     clear H
     go_wp2_with (first | ((with_reducible refine gate_callee (f := 60) rfl ?_); refine goesL_ (some 7) rfl rfl Tryd.func60 (by kernel_rfl) rfl #[.int .i32 a0, .int .i32 829, .int .i32 836] rfl (by (try simp only [List.map_toArray, List.map_cons, List.map_nil]); first | done | rfl | (simp only [List.length_drop, List.length_take]; rfl)) ?_; (with_reducible refine (tremaref02_in.calls a0 829 836 false _ A5.out).mono ?_); rintro e w' ⟨rfl, ⟨nd, rfl⟩⟩; refine ⟨_, rfl, ?_⟩) | ((with_reducible refine gate_callee (f := 60) rfl ?_); refine goesL_ (some 9) rfl rfl Tryd.func60 (by kernel_rfl) rfl #[.int .i32 a0, .int .i32 838, .int .i32 838] rfl (by (try simp only [List.map_toArray, List.map_cons, List.map_nil]); first | done | rfl | (simp only [List.length_drop, List.length_take]; rfl)) ?_; (with_reducible refine (tremaref02_in.calls a0 838 838 true _ A7.out).mono ?_); rintro e w' ⟨rfl, ⟨nd, rfl⟩⟩; refine ⟨_, rfl, ?_⟩))
     go_meet
     case rel => exact ⟨_, (true), (by first | rfl | (simp; done) | (simp [*]; done)), H', ⟨by first | omega | exact Nat.le_refl _⟩, by repeat (first | exact Drawn0.refl _ | apply Drawn0.step)⟩
    ·replace c8 := Bool.eq_false_iff.mpr c8
     subst c8
     have H1 : ((tremaref02_in.f a0 842 844).bind fun t106 => (if t106 = true then (tremaref02_Class.j0 k a0 true) else ((tremaref02_in.f a0 848 850).bind fun t107 => (tremaref02_Class.j0 k a0 t107)))) = some r := by rw [if_neg (show ¬ (false = true) by decide)] at H; exact H
     clear H
     have H := H1
     clear H1
     have HC9 := Aside0.mk H
     clear H
     go_upto_region 4 with (first | ((with_reducible refine gate_callee (f := 60) rfl ?_); refine goesL_ (some 7) rfl rfl Tryd.func60 (by kernel_rfl) rfl #[.int .i32 a0, .int .i32 829, .int .i32 836] rfl (by (try simp only [List.map_toArray, List.map_cons, List.map_nil]); first | done | rfl | (simp only [List.length_drop, List.length_take]; rfl)) ?_; (with_reducible refine (tremaref02_in.calls a0 829 836 false _ A5.out).mono ?_); rintro e w' ⟨rfl, ⟨nd, rfl⟩⟩; refine ⟨_, rfl, ?_⟩) | ((with_reducible refine gate_callee (f := 60) rfl ?_); refine goesL_ (some 9) rfl rfl Tryd.func60 (by kernel_rfl) rfl #[.int .i32 a0, .int .i32 838, .int .i32 838] rfl (by (try simp only [List.map_toArray, List.map_cons, List.map_nil]); first | done | rfl | (simp only [List.length_drop, List.length_take]; rfl)) ?_; (with_reducible refine (tremaref02_in.calls a0 838 838 false _ A7.out).mono ?_); rintro e w' ⟨rfl, ⟨nd, rfl⟩⟩; refine ⟨_, rfl, ?_⟩))
     (try simp only [Act.put, List.setIfInBounds_toArray, List.set_cons_zero, List.set_cons_succ])
     go_cut [3] (fun v3 wc => ∃ (kq : Nat) (x3_8 : Bool), v3 = .bool x3_8 ∧ Aside0 (tremaref02_Class.j0 kq a0 x3_8 = some r) ∧ Aside0 (kq ≤ k) ∧ Drawn0 w wc)
     case first =>
      have H := HC9.out
      clear HC9
      replace H := Option.bind_eq_some_iff.mp H
      obtain ⟨t106, A100, H⟩ := H
      replace H : (if t106 = true then (tremaref02_Class.j0 k a0 true) else ((tremaref02_in.f a0 848 850).bind fun t107 => (tremaref02_Class.j0 k a0 t107))) = some r := H
      have A10 := Aside0.mk A100
      clear A100
      by_cases c11 : t106 = true
      ·subst c11
       have H1 : (tremaref02_Class.j0 k a0 true) = some r := by rw [if_pos rfl] at H; exact H
       clear H
       have H := H1
       clear H1
       have H' := Aside0.mk H
       clear H
       go_wp2_with (first | ((with_reducible refine gate_callee (f := 60) rfl ?_); refine goesL_ (some 11) rfl rfl Tryd.func60 (by kernel_rfl) rfl #[.int .i32 a0, .int .i32 842, .int .i32 844] rfl (by (try simp only [List.map_toArray, List.map_cons, List.map_nil]); first | done | rfl | (simp only [List.length_drop, List.length_take]; rfl)) ?_; (with_reducible refine (tremaref02_in.calls a0 842 844 true _ A10.out).mono ?_); rintro e w' ⟨rfl, ⟨nd, rfl⟩⟩; refine ⟨_, rfl, ?_⟩))
       go_meet
       case rel => exact ⟨_, (true), (by first | rfl | (simp; done) | (simp [*]; done)), H', ⟨by first | omega | exact Nat.le_refl _⟩, by repeat (first | exact Drawn0.refl _ | apply Drawn0.step)⟩
      ·replace c11 := Bool.eq_false_iff.mpr c11
       subst c11
       have H1 : ((tremaref02_in.f a0 848 850).bind fun t107 => (tremaref02_Class.j0 k a0 t107)) = some r := by rw [if_neg (show ¬ (false = true) by decide)] at H; exact H
       clear H
       have H := H1
       clear H1
       replace H := Option.bind_eq_some_iff.mp H
       obtain ⟨t107, A120, H⟩ := H
       replace H : (tremaref02_Class.j0 k a0 t107) = some r := H
       have A12 := Aside0.mk A120
       clear A120
       have H' := Aside0.mk H
       clear H
       go_wp2_with (first | ((with_reducible refine gate_callee (f := 60) rfl ?_); refine goesL_ (some 11) rfl rfl Tryd.func60 (by kernel_rfl) rfl #[.int .i32 a0, .int .i32 842, .int .i32 844] rfl (by (try simp only [List.map_toArray, List.map_cons, List.map_nil]); first | done | rfl | (simp only [List.length_drop, List.length_take]; rfl)) ?_; (with_reducible refine (tremaref02_in.calls a0 842 844 false _ A10.out).mono ?_); rintro e w' ⟨rfl, ⟨nd, rfl⟩⟩; refine ⟨_, rfl, ?_⟩) | (go_at_call 60; (with_reducible refine (tremaref02_in.calls a0 848 850 t107 _ A12.out).mono ?_); rintro e w' ⟨rfl, ⟨nd, rfl⟩⟩))
       go_meet
       case rel => exact ⟨_, (t107), (by first | rfl | (simp; done) | (simp [*]; done)), H', ⟨by first | omega | exact Nat.le_refl _⟩, by repeat (first | exact Drawn0.refl _ | apply Drawn0.step)⟩
     case rest =>
      clear HC9
      try clear c1
      try clear c2
      try clear p2
      try clear c4
      try clear c6
      try clear c8
      try clear c11
      obtain ⟨kq, x3_8, rfl, HA, HJ8, ⟨mc8, rfl⟩⟩ := hcut
      cases kq with
      | zero => exact absurd HA.out (by simp [tremaref02_Class.j0])
      | succ kj8 =>
       have H := HA.out
       clear HA
       simp only [tremaref02_Class.j0] at H
       by_cases c13 : x3_8 = true
       ·subst c13
        have H1 : (tremaref02_Class.j1 kj8 a0 true) = some r := by rw [if_pos rfl] at H; exact H
        clear H
        have H := H1
        clear H1
        have H' := Aside0.mk H
        clear H
        go_wp2
        go_meet
        case rel => exact ⟨_, (true), (by first | rfl | (simp; done) | (simp [*]; done)), H', ⟨by have := HJ8.out; first | omega | exact Nat.le_refl _⟩, by repeat (first | exact Drawn0.refl _ | apply Drawn0.step)⟩
       ·replace c13 := Bool.eq_false_iff.mpr c13
        subst c13
        have H1 : ((tremaref02_in.f a0 855 855).bind fun t108 => (if t108 = true then (tremaref02_Class.j1 kj8 a0 t108) else ((tremaref02_in.f a0 8400 8401).bind fun t109 => (tremaref02_Class.j1 kj8 a0 t109)))) = some r := by rw [if_neg (show ¬ (false = true) by decide)] at H; exact H
        clear H
        have H := H1
        clear H1
        replace H := Option.bind_eq_some_iff.mp H
        obtain ⟨t108, A140, H⟩ := H
        replace H : (if t108 = true then (tremaref02_Class.j1 kj8 a0 t108) else ((tremaref02_in.f a0 8400 8401).bind fun t109 => (tremaref02_Class.j1 kj8 a0 t109))) = some r := H
        have A14 := Aside0.mk A140
        clear A140
        by_cases c15 : t108 = true
        ·subst c15
         have H1 : (tremaref02_Class.j1 kj8 a0 true) = some r := by rw [if_pos rfl] at H; exact H
         clear H
         have H := H1
         clear H1
         have H' := Aside0.mk H
         clear H
         go_wp2_with (first | ((with_reducible refine gate_callee (f := 60) rfl ?_); refine goesL_ (some 17) rfl rfl Tryd.func60 (by kernel_rfl) rfl #[.int .i32 a0, .int .i32 855, .int .i32 855] rfl (by (try simp only [List.map_toArray, List.map_cons, List.map_nil]); first | done | rfl | (simp only [List.length_drop, List.length_take]; rfl)) ?_; (with_reducible refine (tremaref02_in.calls a0 855 855 true _ A14.out).mono ?_); rintro e w' ⟨rfl, ⟨nd, rfl⟩⟩; refine ⟨_, rfl, ?_⟩))
         go_meet
         case rel => exact ⟨_, (true), (by first | rfl | (simp; done) | (simp [*]; done)), H', ⟨by have := HJ8.out; first | omega | exact Nat.le_refl _⟩, by repeat (first | exact Drawn0.refl _ | apply Drawn0.step)⟩
        ·replace c15 := Bool.eq_false_iff.mpr c15
         subst c15
         have H1 : ((tremaref02_in.f a0 8400 8401).bind fun t109 => (tremaref02_Class.j1 kj8 a0 t109)) = some r := by rw [if_neg (show ¬ (false = true) by decide)] at H; exact H
         clear H
         have H := H1
         clear H1
         replace H := Option.bind_eq_some_iff.mp H
         obtain ⟨t109, A160, H⟩ := H
         replace H : (tremaref02_Class.j1 kj8 a0 t109) = some r := H
         have A16 := Aside0.mk A160
         clear A160
         have H' := Aside0.mk H
         clear H
         go_wp2_with (first | ((with_reducible refine gate_callee (f := 60) rfl ?_); refine goesL_ (some 17) rfl rfl Tryd.func60 (by kernel_rfl) rfl #[.int .i32 a0, .int .i32 855, .int .i32 855] rfl (by (try simp only [List.map_toArray, List.map_cons, List.map_nil]); first | done | rfl | (simp only [List.length_drop, List.length_take]; rfl)) ?_; (with_reducible refine (tremaref02_in.calls a0 855 855 false _ A14.out).mono ?_); rintro e w' ⟨rfl, ⟨nd, rfl⟩⟩; refine ⟨_, rfl, ?_⟩) | ((with_reducible refine gate_callee (f := 60) rfl ?_); refine goesL_ (some 19) rfl rfl Tryd.func60 (by kernel_rfl) rfl #[.int .i32 a0, .int .i32 8400, .int .i32 8401] rfl (by (try simp only [List.map_toArray, List.map_cons, List.map_nil]); first | done | rfl | (simp only [List.length_drop, List.length_take]; rfl)) ?_; (with_reducible refine (tremaref02_in.calls a0 8400 8401 t109 _ A16.out).mono ?_); rintro e w' ⟨rfl, ⟨nd, rfl⟩⟩; refine ⟨_, rfl, ?_⟩))
         go_meet
         case rel => exact ⟨_, (t109), (by first | rfl | (simp; done) | (simp [*]; done)), H', ⟨by have := HJ8.out; first | omega | exact Nat.le_refl _⟩, by repeat (first | exact Drawn0.refl _ | apply Drawn0.step)⟩
 case rest =>
  clear HC3
  try clear c1
  try clear c2
  try clear p2
  try clear c4
  try clear c6
  try clear c8
  try clear c11
  try clear c13
  try clear c15
  try clear p2
  obtain ⟨kq, x3_2, rfl, HA, HJ2, ⟨mc2, rfl⟩⟩ := hcut
  cases kq with
  | zero => exact absurd HA.out (by simp [tremaref02_Class.j1])
  | succ kj2 =>
   have H := HA.out
   clear HA
   simp only [tremaref02_Class.j1] at H
   by_cases c17 : x3_2 = true
   ·subst c17
    have H1 : (some 230) = some r := by rw [if_pos rfl] at H; exact H
    clear H
    have H := H1
    clear H1
    obtain rfl := Option.some.inj H
    go_wp2
    go_ret
    exact ⟨by first | rfl | (simp; done) | (simp [*]; done), by repeat (first | exact Drawn0.refl _ | apply Drawn0.step)⟩
   ·replace c17 := Bool.eq_false_iff.mpr c17
    subst c17
    have H1 : ((tremaref02_in.f a0 789 789).bind fun t110 => (if t110 = true then (tremaref02_Class.j2 kj2 a0 t110) else ((tremaref02_in.f a0 794 794).bind fun t111 => (tremaref02_Class.j2 kj2 a0 t111)))) = some r := by rw [if_neg (show ¬ (false = true) by decide)] at H; exact H
    clear H
    have H := H1
    clear H1
    replace H := Option.bind_eq_some_iff.mp H
    obtain ⟨t110, A180, H⟩ := H
    replace H : (if t110 = true then (tremaref02_Class.j2 kj2 a0 t110) else ((tremaref02_in.f a0 794 794).bind fun t111 => (tremaref02_Class.j2 kj2 a0 t111))) = some r := H
    have A18 := Aside0.mk A180
    clear A180
    have HC19 := Aside0.mk H
    clear H
    go_upto_if 20 with (first | ((with_reducible refine gate_callee (f := 60) rfl ?_); refine goesL_ (some 22) rfl rfl Tryd.func60 (by kernel_rfl) rfl #[.int .i32 a0, .int .i32 789, .int .i32 789] rfl (by (try simp only [List.map_toArray, List.map_cons, List.map_nil]); first | done | rfl | (simp only [List.length_drop, List.length_take]; rfl)) ?_; (with_reducible refine (tremaref02_in.calls a0 789 789 t110 _ A18.out).mono ?_); rintro e w' ⟨rfl, ⟨nd, rfl⟩⟩; refine ⟨_, rfl, ?_⟩))
    (try simp only [Act.put, List.setIfInBounds_toArray, List.set_cons_zero, List.set_cons_succ])
    go_cut [20] (fun v20 wc => ∃ (kq : Nat) (x20_18 : Bool), v20 = .bool x20_18 ∧ Aside0 (tremaref02_Class.j2 kq a0 x20_18 = some r) ∧ Aside0 (kq ≤ kj2) ∧ Drawn0 w wc)
    case first =>
     have H := HC19.out
     clear HC19
     by_cases c20 : t110 = true
     ·subst c20
      have H1 : (tremaref02_Class.j2 kj2 a0 true) = some r := by rw [if_pos rfl] at H; exact H
      clear H
      have H := H1
      clear H1
      have H' := Aside0.mk H
      clear H
      go_wp2
      go_meet
      case rel => exact ⟨_, (true), (by first | rfl | (simp; done) | (simp [*]; done)), H', ⟨by have := HJ2.out; first | omega | exact Nat.le_refl _⟩, by repeat (first | exact Drawn0.refl _ | apply Drawn0.step)⟩
     ·replace c20 := Bool.eq_false_iff.mpr c20
      subst c20
      have H1 : ((tremaref02_in.f a0 794 794).bind fun t111 => (tremaref02_Class.j2 kj2 a0 t111)) = some r := by rw [if_neg (show ¬ (false = true) by decide)] at H; exact H
      clear H
      have H := H1
      clear H1
      replace H := Option.bind_eq_some_iff.mp H
      obtain ⟨t111, A210, H⟩ := H
      replace H : (tremaref02_Class.j2 kj2 a0 t111) = some r := H
      have A21 := Aside0.mk A210
      clear A210
      have H' := Aside0.mk H
      clear H
      go_wp2_with (first | ((with_reducible refine gate_callee (f := 60) rfl ?_); refine goesL_ (some 24) rfl rfl Tryd.func60 (by kernel_rfl) rfl #[.int .i32 a0, .int .i32 794, .int .i32 794] rfl (by (try simp only [List.map_toArray, List.map_cons, List.map_nil]); first | done | rfl | (simp only [List.length_drop, List.length_take]; rfl)) ?_; (with_reducible refine (tremaref02_in.calls a0 794 794 t111 _ A21.out).mono ?_); rintro e w' ⟨rfl, ⟨nd, rfl⟩⟩; refine ⟨_, rfl, ?_⟩))
      go_meet
      case rel => exact ⟨_, (t111), (by first | rfl | (simp; done) | (simp [*]; done)), H', ⟨by have := HJ2.out; first | omega | exact Nat.le_refl _⟩, by repeat (first | exact Drawn0.refl _ | apply Drawn0.step)⟩
    case rest =>
     clear HC19
     try clear c1
     try clear c2
     try clear p2
     try clear c4
     try clear c6
     try clear c8
     try clear c11
     try clear c13
     try clear c15
     try clear c17
     try clear c20
     try clear p2
     obtain ⟨kq, x20_18, rfl, HA, HJ18, ⟨mc18, rfl⟩⟩ := hcut
     cases kq with
     | zero => exact absurd HA.out (by simp [tremaref02_Class.j2])
     | succ kj18 =>
      have H := HA.out
      clear HA
      simp only [tremaref02_Class.j2] at H
      by_cases c22 : x20_18 = true
      ·subst c22
       have H1 : (some 232) = some r := by rw [if_pos rfl] at H; exact H
       clear H
       have H := H1
       clear H1
       obtain rfl := Option.some.inj H
       go_wp2
       go_ret
       exact ⟨by first | rfl | (simp; done) | (simp [*]; done), by repeat (first | exact Drawn0.refl _ | apply Drawn0.step)⟩
      ·replace c22 := Bool.eq_false_iff.mpr c22
       subst c22
       have H1 : ((tremaref02_in.f a0 790 793).bind fun t112 => (if t112 = true then (tremaref02_Class.j4 kj18 a0 t112) else ((tremaref02_in.f a0 796 800).bind fun t113 => (if t113 = true then (tremaref02_Class.j4 kj18 a0 t113) else ((tremaref02_in.f a0 803 806).bind fun t114 => (if t114 = true then (tremaref02_Class.j4 kj18 a0 t114) else ((tremaref02_in.f a0 809 819).bind fun t115 => (if t115 = true then (tremaref02_Class.j3 kj18 a0 true) else ((tremaref02_in.f a0 825 828).bind fun t116 => (tremaref02_Class.j3 kj18 a0 t116)))))))))) = some r := by rw [if_neg (show ¬ (false = true) by decide)] at H; exact H
       clear H
       have H := H1
       clear H1
       replace H := Option.bind_eq_some_iff.mp H
       obtain ⟨t112, A230, H⟩ := H
       replace H : (if t112 = true then (tremaref02_Class.j4 kj18 a0 t112) else ((tremaref02_in.f a0 796 800).bind fun t113 => (if t113 = true then (tremaref02_Class.j4 kj18 a0 t113) else ((tremaref02_in.f a0 803 806).bind fun t114 => (if t114 = true then (tremaref02_Class.j4 kj18 a0 t114) else ((tremaref02_in.f a0 809 819).bind fun t115 => (if t115 = true then (tremaref02_Class.j3 kj18 a0 true) else ((tremaref02_in.f a0 825 828).bind fun t116 => (tremaref02_Class.j3 kj18 a0 t116))))))))) = some r := H
       have A23 := Aside0.mk A230
       clear A230
       have HC24 := Aside0.mk H
       clear H
       go_upto_if 25 with (first | ((with_reducible refine gate_callee (f := 60) rfl ?_); refine goesL_ (some 27) rfl rfl Tryd.func60 (by kernel_rfl) rfl #[.int .i32 a0, .int .i32 790, .int .i32 793] rfl (by (try simp only [List.map_toArray, List.map_cons, List.map_nil]); first | done | rfl | (simp only [List.length_drop, List.length_take]; rfl)) ?_; (with_reducible refine (tremaref02_in.calls a0 790 793 t112 _ A23.out).mono ?_); rintro e w' ⟨rfl, ⟨nd, rfl⟩⟩; refine ⟨_, rfl, ?_⟩))
       (try simp only [Act.put, List.setIfInBounds_toArray, List.set_cons_zero, List.set_cons_succ])
       go_cut [25] (fun v25 wc => ∃ (kq : Nat) (x25_23 : Bool), v25 = .bool x25_23 ∧ Aside0 (tremaref02_Class.j4 kq a0 x25_23 = some r) ∧ Aside0 (kq ≤ kj18) ∧ Drawn0 w wc)
       case first =>
        have H := HC24.out
        clear HC24
        by_cases c25 : t112 = true
        ·subst c25
         have H1 : (tremaref02_Class.j4 kj18 a0 true) = some r := by rw [if_pos rfl] at H; exact H
         clear H
         have H := H1
         clear H1
         have H' := Aside0.mk H
         clear H
         go_wp2
         go_meet
         case rel => exact ⟨_, (true), (by first | rfl | (simp; done) | (simp [*]; done)), H', ⟨by have := HJ2.out; have := HJ18.out; first | omega | exact Nat.le_refl _⟩, by repeat (first | exact Drawn0.refl _ | apply Drawn0.step)⟩
        ·replace c25 := Bool.eq_false_iff.mpr c25
         subst c25
         have H1 : ((tremaref02_in.f a0 796 800).bind fun t113 => (if t113 = true then (tremaref02_Class.j4 kj18 a0 t113) else ((tremaref02_in.f a0 803 806).bind fun t114 => (if t114 = true then (tremaref02_Class.j4 kj18 a0 t114) else ((tremaref02_in.f a0 809 819).bind fun t115 => (if t115 = true then (tremaref02_Class.j3 kj18 a0 true) else ((tremaref02_in.f a0 825 828).bind fun t116 => (tremaref02_Class.j3 kj18 a0 t116)))))))) = some r := by rw [if_neg (show ¬ (false = true) by decide)] at H; exact H
         clear H
         have H := H1
         clear H1
         replace H := Option.bind_eq_some_iff.mp H
         obtain ⟨t113, A260, H⟩ := H
         replace H : (if t113 = true then (tremaref02_Class.j4 kj18 a0 t113) else ((tremaref02_in.f a0 803 806).bind fun t114 => (if t114 = true then (tremaref02_Class.j4 kj18 a0 t114) else ((tremaref02_in.f a0 809 819).bind fun t115 => (if t115 = true then (tremaref02_Class.j3 kj18 a0 true) else ((tremaref02_in.f a0 825 828).bind fun t116 => (tremaref02_Class.j3 kj18 a0 t116))))))) = some r := H
         have A26 := Aside0.mk A260
         clear A260
         by_cases c27 : t113 = true
         ·subst c27
          have H1 : (tremaref02_Class.j4 kj18 a0 true) = some r := by rw [if_pos rfl] at H; exact H
          clear H
          have H := H1
          clear H1
          have H' := Aside0.mk H
          clear H
          go_wp2_with (first | ((with_reducible refine gate_callee (f := 60) rfl ?_); refine goesL_ (some 29) rfl rfl Tryd.func60 (by kernel_rfl) rfl #[.int .i32 a0, .int .i32 796, .int .i32 800] rfl (by (try simp only [List.map_toArray, List.map_cons, List.map_nil]); first | done | rfl | (simp only [List.length_drop, List.length_take]; rfl)) ?_; (with_reducible refine (tremaref02_in.calls a0 796 800 true _ A26.out).mono ?_); rintro e w' ⟨rfl, ⟨nd, rfl⟩⟩; refine ⟨_, rfl, ?_⟩))
          go_meet
          case rel => exact ⟨_, (true), (by first | rfl | (simp; done) | (simp [*]; done)), H', ⟨by have := HJ2.out; have := HJ18.out; first | omega | exact Nat.le_refl _⟩, by repeat (first | exact Drawn0.refl _ | apply Drawn0.step)⟩
         ·replace c27 := Bool.eq_false_iff.mpr c27
          subst c27
          have H1 : ((tremaref02_in.f a0 803 806).bind fun t114 => (if t114 = true then (tremaref02_Class.j4 kj18 a0 t114) else ((tremaref02_in.f a0 809 819).bind fun t115 => (if t115 = true then (tremaref02_Class.j3 kj18 a0 true) else ((tremaref02_in.f a0 825 828).bind fun t116 => (tremaref02_Class.j3 kj18 a0 t116)))))) = some r := by rw [if_neg (show ¬ (false = true) by decide)] at H; exact H
          clear H
          have H := H1
          clear H1
          replace H := Option.bind_eq_some_iff.mp H
          obtain ⟨t114, A280, H⟩ := H
          replace H : (if t114 = true then (tremaref02_Class.j4 kj18 a0 t114) else ((tremaref02_in.f a0 809 819).bind fun t115 => (if t115 = true then (tremaref02_Class.j3 kj18 a0 true) else ((tremaref02_in.f a0 825 828).bind fun t116 => (tremaref02_Class.j3 kj18 a0 t116))))) = some r := H
          have A28 := Aside0.mk A280
          clear A280
          by_cases c29 : t114 = true
          ·subst c29
           have H1 : (tremaref02_Class.j4 kj18 a0 true) = some r := by rw [if_pos rfl] at H; exact H
           clear H
           have H := H1
           clear H1
           have H' := Aside0.mk H
           clear H
           go_wp2_with (first | ((with_reducible refine gate_callee (f := 60) rfl ?_); refine goesL_ (some 29) rfl rfl Tryd.func60 (by kernel_rfl) rfl #[.int .i32 a0, .int .i32 796, .int .i32 800] rfl (by (try simp only [List.map_toArray, List.map_cons, List.map_nil]); first | done | rfl | (simp only [List.length_drop, List.length_take]; rfl)) ?_; (with_reducible refine (tremaref02_in.calls a0 796 800 false _ A26.out).mono ?_); rintro e w' ⟨rfl, ⟨nd, rfl⟩⟩; refine ⟨_, rfl, ?_⟩) | ((with_reducible refine gate_callee (f := 60) rfl ?_); refine goesL_ (some 31) rfl rfl Tryd.func60 (by kernel_rfl) rfl #[.int .i32 a0, .int .i32 803, .int .i32 806] rfl (by (try simp only [List.map_toArray, List.map_cons, List.map_nil]); first | done | rfl | (simp only [List.length_drop, List.length_take]; rfl)) ?_; (with_reducible refine (tremaref02_in.calls a0 803 806 true _ A28.out).mono ?_); rintro e w' ⟨rfl, ⟨nd, rfl⟩⟩; refine ⟨_, rfl, ?_⟩))
           go_meet
           case rel => exact ⟨_, (true), (by first | rfl | (simp; done) | (simp [*]; done)), H', ⟨by have := HJ2.out; have := HJ18.out; first | omega | exact Nat.le_refl _⟩, by repeat (first | exact Drawn0.refl _ | apply Drawn0.step)⟩
          ·replace c29 := Bool.eq_false_iff.mpr c29
           subst c29
           have H1 : ((tremaref02_in.f a0 809 819).bind fun t115 => (if t115 = true then (tremaref02_Class.j3 kj18 a0 true) else ((tremaref02_in.f a0 825 828).bind fun t116 => (tremaref02_Class.j3 kj18 a0 t116)))) = some r := by rw [if_neg (show ¬ (false = true) by decide)] at H; exact H
           clear H
           have H := H1
           clear H1
           have HC30 := Aside0.mk H
           clear H
           go_upto_region 14 with (first | ((with_reducible refine gate_callee (f := 60) rfl ?_); refine goesL_ (some 29) rfl rfl Tryd.func60 (by kernel_rfl) rfl #[.int .i32 a0, .int .i32 796, .int .i32 800] rfl (by (try simp only [List.map_toArray, List.map_cons, List.map_nil]); first | done | rfl | (simp only [List.length_drop, List.length_take]; rfl)) ?_; (with_reducible refine (tremaref02_in.calls a0 796 800 false _ A26.out).mono ?_); rintro e w' ⟨rfl, ⟨nd, rfl⟩⟩; refine ⟨_, rfl, ?_⟩) | ((with_reducible refine gate_callee (f := 60) rfl ?_); refine goesL_ (some 31) rfl rfl Tryd.func60 (by kernel_rfl) rfl #[.int .i32 a0, .int .i32 803, .int .i32 806] rfl (by (try simp only [List.map_toArray, List.map_cons, List.map_nil]); first | done | rfl | (simp only [List.length_drop, List.length_take]; rfl)) ?_; (with_reducible refine (tremaref02_in.calls a0 803 806 false _ A28.out).mono ?_); rintro e w' ⟨rfl, ⟨nd, rfl⟩⟩; refine ⟨_, rfl, ?_⟩))
           (try simp only [Act.put, List.setIfInBounds_toArray, List.set_cons_zero, List.set_cons_succ])
           go_cut [25] (fun v25 wc => ∃ (kq : Nat) (x25_29 : Bool), v25 = .bool x25_29 ∧ Aside0 (tremaref02_Class.j3 kq a0 x25_29 = some r) ∧ Aside0 (kq ≤ kj18) ∧ Drawn0 w wc)
           case first =>
            have H := HC30.out
            clear HC30
            replace H := Option.bind_eq_some_iff.mp H
            obtain ⟨t115, A310, H⟩ := H
            replace H : (if t115 = true then (tremaref02_Class.j3 kj18 a0 true) else ((tremaref02_in.f a0 825 828).bind fun t116 => (tremaref02_Class.j3 kj18 a0 t116))) = some r := H
            have A31 := Aside0.mk A310
            clear A310
            by_cases c32 : t115 = true
            ·subst c32
             have H1 : (tremaref02_Class.j3 kj18 a0 true) = some r := by rw [if_pos rfl] at H; exact H
             clear H
             have H := H1
             clear H1
             have H' := Aside0.mk H
             clear H
             go_wp2_with (first | ((with_reducible refine gate_callee (f := 60) rfl ?_); refine goesL_ (some 33) rfl rfl Tryd.func60 (by kernel_rfl) rfl #[.int .i32 a0, .int .i32 809, .int .i32 819] rfl (by (try simp only [List.map_toArray, List.map_cons, List.map_nil]); first | done | rfl | (simp only [List.length_drop, List.length_take]; rfl)) ?_; (with_reducible refine (tremaref02_in.calls a0 809 819 true _ A31.out).mono ?_); rintro e w' ⟨rfl, ⟨nd, rfl⟩⟩; refine ⟨_, rfl, ?_⟩))
             go_meet
             case rel => exact ⟨_, (true), (by first | rfl | (simp; done) | (simp [*]; done)), H', ⟨by have := HJ2.out; have := HJ18.out; first | omega | exact Nat.le_refl _⟩, by repeat (first | exact Drawn0.refl _ | apply Drawn0.step)⟩
            ·replace c32 := Bool.eq_false_iff.mpr c32
             subst c32
             have H1 : ((tremaref02_in.f a0 825 828).bind fun t116 => (tremaref02_Class.j3 kj18 a0 t116)) = some r := by rw [if_neg (show ¬ (false = true) by decide)] at H; exact H
             clear H
             have H := H1
             clear H1
             replace H := Option.bind_eq_some_iff.mp H
             obtain ⟨t116, A330, H⟩ := H
             replace H : (tremaref02_Class.j3 kj18 a0 t116) = some r := H
             have A33 := Aside0.mk A330
             clear A330
             have H' := Aside0.mk H
             clear H
             go_wp2_with (first | ((with_reducible refine gate_callee (f := 60) rfl ?_); refine goesL_ (some 33) rfl rfl Tryd.func60 (by kernel_rfl) rfl #[.int .i32 a0, .int .i32 809, .int .i32 819] rfl (by (try simp only [List.map_toArray, List.map_cons, List.map_nil]); first | done | rfl | (simp only [List.length_drop, List.length_take]; rfl)) ?_; (with_reducible refine (tremaref02_in.calls a0 809 819 false _ A31.out).mono ?_); rintro e w' ⟨rfl, ⟨nd, rfl⟩⟩; refine ⟨_, rfl, ?_⟩) | (go_at_call 60; (with_reducible refine (tremaref02_in.calls a0 825 828 t116 _ A33.out).mono ?_); rintro e w' ⟨rfl, ⟨nd, rfl⟩⟩))
             go_meet
             case rel => exact ⟨_, (t116), (by first | rfl | (simp; done) | (simp [*]; done)), H', ⟨by have := HJ2.out; have := HJ18.out; first | omega | exact Nat.le_refl _⟩, by repeat (first | exact Drawn0.refl _ | apply Drawn0.step)⟩
           case rest =>
            clear HC30
            try clear c1
            try clear c2
            try clear p2
            try clear c3
            try clear c4
            try clear c6
            try clear c8
            try clear c11
            try clear c13
            try clear c15
            try clear c17
            try clear c18
            try clear c20
            try clear c22
            try clear c25
            try clear c27
            try clear c29
            try clear c32
            try clear p2
            obtain ⟨kq, x25_29, rfl, HA, HJ29, ⟨mc29, rfl⟩⟩ := hcut
            cases kq with
            | zero => exact absurd HA.out (by simp [tremaref02_Class.j3])
            | succ kj29 =>
             have H := HA.out
             clear HA
             simp only [tremaref02_Class.j3] at H
             by_cases c34 : x25_29 = true
             ·subst c34
              have H1 : (tremaref02_Class.j4 kj29 a0 true) = some r := by rw [if_pos rfl] at H; exact H
              clear H
              have H := H1
              clear H1
              have H' := Aside0.mk H
              clear H
              go_wp2
              go_meet
              case rel => exact ⟨_, (true), (by first | rfl | (simp; done) | (simp [*]; done)), H', ⟨by have := HJ2.out; have := HJ18.out; have := HJ29.out; first | omega | exact Nat.le_refl _⟩, by repeat (first | exact Drawn0.refl _ | apply Drawn0.step)⟩
             ·replace c34 := Bool.eq_false_iff.mpr c34
              subst c34
              have H1 : ((tremaref02_in.f a0 839 841).bind fun t117 => (if t117 = true then (tremaref02_Class.j4 kj29 a0 t117) else ((tremaref02_in.f a0 845 846).bind fun t118 => (if t118 = true then (tremaref02_Class.j4 kj29 a0 t118) else ((tremaref02_in.f a0 851 854).bind fun t119 => (tremaref02_Class.j4 kj29 a0 t119)))))) = some r := by rw [if_neg (show ¬ (false = true) by decide)] at H; exact H
              clear H
              have H := H1
              clear H1
              replace H := Option.bind_eq_some_iff.mp H
              obtain ⟨t117, A350, H⟩ := H
              replace H : (if t117 = true then (tremaref02_Class.j4 kj29 a0 t117) else ((tremaref02_in.f a0 845 846).bind fun t118 => (if t118 = true then (tremaref02_Class.j4 kj29 a0 t118) else ((tremaref02_in.f a0 851 854).bind fun t119 => (tremaref02_Class.j4 kj29 a0 t119))))) = some r := H
              have A35 := Aside0.mk A350
              clear A350
              by_cases c36 : t117 = true
              ·subst c36
               have H1 : (tremaref02_Class.j4 kj29 a0 true) = some r := by rw [if_pos rfl] at H; exact H
               clear H
               have H := H1
               clear H1
               have H' := Aside0.mk H
               clear H
               go_wp2_with (first | ((with_reducible refine gate_callee (f := 60) rfl ?_); refine goesL_ (some 39) rfl rfl Tryd.func60 (by kernel_rfl) rfl #[.int .i32 a0, .int .i32 839, .int .i32 841] rfl (by (try simp only [List.map_toArray, List.map_cons, List.map_nil]); first | done | rfl | (simp only [List.length_drop, List.length_take]; rfl)) ?_; (with_reducible refine (tremaref02_in.calls a0 839 841 true _ A35.out).mono ?_); rintro e w' ⟨rfl, ⟨nd, rfl⟩⟩; refine ⟨_, rfl, ?_⟩))
               go_meet
               case rel => exact ⟨_, (true), (by first | rfl | (simp; done) | (simp [*]; done)), H', ⟨by have := HJ2.out; have := HJ18.out; have := HJ29.out; first | omega | exact Nat.le_refl _⟩, by repeat (first | exact Drawn0.refl _ | apply Drawn0.step)⟩
              ·replace c36 := Bool.eq_false_iff.mpr c36
               subst c36
               have H1 : ((tremaref02_in.f a0 845 846).bind fun t118 => (if t118 = true then (tremaref02_Class.j4 kj29 a0 t118) else ((tremaref02_in.f a0 851 854).bind fun t119 => (tremaref02_Class.j4 kj29 a0 t119)))) = some r := by rw [if_neg (show ¬ (false = true) by decide)] at H; exact H
               clear H
               have H := H1
               clear H1
               replace H := Option.bind_eq_some_iff.mp H
               obtain ⟨t118, A370, H⟩ := H
               replace H : (if t118 = true then (tremaref02_Class.j4 kj29 a0 t118) else ((tremaref02_in.f a0 851 854).bind fun t119 => (tremaref02_Class.j4 kj29 a0 t119))) = some r := H
               have A37 := Aside0.mk A370
               clear A370
               by_cases c38 : t118 = true
               ·subst c38
                have H1 : (tremaref02_Class.j4 kj29 a0 true) = some r := by rw [if_pos rfl] at H; exact H
                clear H
                have H := H1
                clear H1
                have H' := Aside0.mk H
                clear H
                go_wp2_with (first | ((with_reducible refine gate_callee (f := 60) rfl ?_); refine goesL_ (some 39) rfl rfl Tryd.func60 (by kernel_rfl) rfl #[.int .i32 a0, .int .i32 839, .int .i32 841] rfl (by (try simp only [List.map_toArray, List.map_cons, List.map_nil]); first | done | rfl | (simp only [List.length_drop, List.length_take]; rfl)) ?_; (with_reducible refine (tremaref02_in.calls a0 839 841 false _ A35.out).mono ?_); rintro e w' ⟨rfl, ⟨nd, rfl⟩⟩; refine ⟨_, rfl, ?_⟩) | ((with_reducible refine gate_callee (f := 60) rfl ?_); refine goesL_ (some 41) rfl rfl Tryd.func60 (by kernel_rfl) rfl #[.int .i32 a0, .int .i32 845, .int .i32 846] rfl (by (try simp only [List.map_toArray, List.map_cons, List.map_nil]); first | done | rfl | (simp only [List.length_drop, List.length_take]; rfl)) ?_; (with_reducible refine (tremaref02_in.calls a0 845 846 true _ A37.out).mono ?_); rintro e w' ⟨rfl, ⟨nd, rfl⟩⟩; refine ⟨_, rfl, ?_⟩))
                go_meet
                case rel => exact ⟨_, (true), (by first | rfl | (simp; done) | (simp [*]; done)), H', ⟨by have := HJ2.out; have := HJ18.out; have := HJ29.out; first | omega | exact Nat.le_refl _⟩, by repeat (first | exact Drawn0.refl _ | apply Drawn0.step)⟩
               ·replace c38 := Bool.eq_false_iff.mpr c38
                subst c38
                have H1 : ((tremaref02_in.f a0 851 854).bind fun t119 => (tremaref02_Class.j4 kj29 a0 t119)) = some r := by rw [if_neg (show ¬ (false = true) by decide)] at H; exact H
                clear H
                have H := H1
                clear H1
                replace H := Option.bind_eq_some_iff.mp H
                obtain ⟨t119, A390, H⟩ := H
                replace H : (tremaref02_Class.j4 kj29 a0 t119) = some r := H
                have A39 := Aside0.mk A390
                clear A390
                have H' := Aside0.mk H
                clear H
                go_wp2_with (first | ((with_reducible refine gate_callee (f := 60) rfl ?_); refine goesL_ (some 39) rfl rfl Tryd.func60 (by kernel_rfl) rfl #[.int .i32 a0, .int .i32 839, .int .i32 841] rfl (by (try simp only [List.map_toArray, List.map_cons, List.map_nil]); first | done | rfl | (simp only [List.length_drop, List.length_take]; rfl)) ?_; (with_reducible refine (tremaref02_in.calls a0 839 841 false _ A35.out).mono ?_); rintro e w' ⟨rfl, ⟨nd, rfl⟩⟩; refine ⟨_, rfl, ?_⟩) | ((with_reducible refine gate_callee (f := 60) rfl ?_); refine goesL_ (some 41) rfl rfl Tryd.func60 (by kernel_rfl) rfl #[.int .i32 a0, .int .i32 845, .int .i32 846] rfl (by (try simp only [List.map_toArray, List.map_cons, List.map_nil]); first | done | rfl | (simp only [List.length_drop, List.length_take]; rfl)) ?_; (with_reducible refine (tremaref02_in.calls a0 845 846 false _ A37.out).mono ?_); rintro e w' ⟨rfl, ⟨nd, rfl⟩⟩; refine ⟨_, rfl, ?_⟩) | ((with_reducible refine gate_callee (f := 60) rfl ?_); refine goesL_ (some 43) rfl rfl Tryd.func60 (by kernel_rfl) rfl #[.int .i32 a0, .int .i32 851, .int .i32 854] rfl (by (try simp only [List.map_toArray, List.map_cons, List.map_nil]); first | done | rfl | (simp only [List.length_drop, List.length_take]; rfl)) ?_; (with_reducible refine (tremaref02_in.calls a0 851 854 t119 _ A39.out).mono ?_); rintro e w' ⟨rfl, ⟨nd, rfl⟩⟩; refine ⟨_, rfl, ?_⟩))
                go_meet
                case rel => exact ⟨_, (t119), (by first | rfl | (simp; done) | (simp [*]; done)), H', ⟨by have := HJ2.out; have := HJ18.out; have := HJ29.out; first | omega | exact Nat.le_refl _⟩, by repeat (first | exact Drawn0.refl _ | apply Drawn0.step)⟩
       case rest =>
        clear HC24
        try clear c1
        try clear c2
        try clear p2
        try clear c3
        try clear c4
        try clear c6
        try clear c8
        try clear c11
        try clear c13
        try clear c15
        try clear c17
        try clear c18
        try clear c20
        try clear c22
        try clear c25
        try clear c27
        try clear c29
        try clear c32
        try clear c34
        try clear c36
        try clear c38
        try clear p2
        obtain ⟨kq, x25_23, rfl, HA, HJ23, ⟨mc23, rfl⟩⟩ := hcut
        cases kq with
        | zero => exact absurd HA.out (by simp [tremaref02_Class.j4])
        | succ kj23 =>
         have H := HA.out
         clear HA
         simp only [tremaref02_Class.j4] at H
         by_cases c40 : x25_23 = true
         ·subst c40
          have H1 : (some 220) = some r := by rw [if_pos rfl] at H; exact H
          clear H
          have H := H1
          clear H1
          obtain rfl := Option.some.inj H
          go_wp2
          go_ret
          exact ⟨by first | rfl | (simp; done) | (simp [*]; done), by repeat (first | exact Drawn0.refl _ | apply Drawn0.step)⟩
         ·replace c40 := Bool.eq_false_iff.mpr c40
          subst c40
          have H1 : ((tremaref02_in.f a0 795 795).bind fun t120 => (if t120 = true then (some 216) else ((tremaref02_in.f a0 801 802).bind fun t121 => (if t121 = true then (tremaref02_Class.j5 kj23 a0 t121) else ((tremaref02_in.f a0 807 808).bind fun t122 => (tremaref02_Class.j5 kj23 a0 t122)))))) = some r := by rw [if_neg (show ¬ (false = true) by decide)] at H; exact H
          clear H
          have H := H1
          clear H1
          replace H := Option.bind_eq_some_iff.mp H
          obtain ⟨t120, A410, H⟩ := H
          replace H : (if t120 = true then (some 216) else ((tremaref02_in.f a0 801 802).bind fun t121 => (if t121 = true then (tremaref02_Class.j5 kj23 a0 t121) else ((tremaref02_in.f a0 807 808).bind fun t122 => (tremaref02_Class.j5 kj23 a0 t122))))) = some r := H
          have A41 := Aside0.mk A410
          clear A410
          by_cases c42 : t120 = true
          ·subst c42
           have H1 : (some 216) = some r := by rw [if_pos rfl] at H; exact H
           clear H
           have H := H1
           clear H1
           obtain rfl := Option.some.inj H
           go_wp2_with (first | ((with_reducible refine gate_callee (f := 60) rfl ?_); refine goesL_ (some 46) rfl rfl Tryd.func60 (by kernel_rfl) rfl #[.int .i32 a0, .int .i32 795, .int .i32 795] rfl (by (try simp only [List.map_toArray, List.map_cons, List.map_nil]); first | done | rfl | (simp only [List.length_drop, List.length_take]; rfl)) ?_; (with_reducible refine (tremaref02_in.calls a0 795 795 true _ A41.out).mono ?_); rintro e w' ⟨rfl, ⟨nd, rfl⟩⟩; refine ⟨_, rfl, ?_⟩))
           go_ret
           exact ⟨by first | rfl | (simp; done) | (simp [*]; done), by repeat (first | exact Drawn0.refl _ | apply Drawn0.step)⟩
          ·replace c42 := Bool.eq_false_iff.mpr c42
           subst c42
           have H1 : ((tremaref02_in.f a0 801 802).bind fun t121 => (if t121 = true then (tremaref02_Class.j5 kj23 a0 t121) else ((tremaref02_in.f a0 807 808).bind fun t122 => (tremaref02_Class.j5 kj23 a0 t122)))) = some r := by rw [if_neg (show ¬ (false = true) by decide)] at H; exact H
           clear H
           have H := H1
           clear H1
           replace H := Option.bind_eq_some_iff.mp H
           obtain ⟨t121, A430, H⟩ := H
           replace H : (if t121 = true then (tremaref02_Class.j5 kj23 a0 t121) else ((tremaref02_in.f a0 807 808).bind fun t122 => (tremaref02_Class.j5 kj23 a0 t122))) = some r := H
           have A43 := Aside0.mk A430
           clear A430
           have HC44 := Aside0.mk H
           clear H
           go_upto_if 47 with (first | ((with_reducible refine gate_callee (f := 60) rfl ?_); refine goesL_ (some 46) rfl rfl Tryd.func60 (by kernel_rfl) rfl #[.int .i32 a0, .int .i32 795, .int .i32 795] rfl (by (try simp only [List.map_toArray, List.map_cons, List.map_nil]); first | done | rfl | (simp only [List.length_drop, List.length_take]; rfl)) ?_; (with_reducible refine (tremaref02_in.calls a0 795 795 false _ A41.out).mono ?_); rintro e w' ⟨rfl, ⟨nd, rfl⟩⟩; refine ⟨_, rfl, ?_⟩) | ((with_reducible refine gate_callee (f := 60) rfl ?_); refine goesL_ (some 49) rfl rfl Tryd.func60 (by kernel_rfl) rfl #[.int .i32 a0, .int .i32 801, .int .i32 802] rfl (by (try simp only [List.map_toArray, List.map_cons, List.map_nil]); first | done | rfl | (simp only [List.length_drop, List.length_take]; rfl)) ?_; (with_reducible refine (tremaref02_in.calls a0 801 802 t121 _ A43.out).mono ?_); rintro e w' ⟨rfl, ⟨nd, rfl⟩⟩; refine ⟨_, rfl, ?_⟩))
           (try simp only [Act.put, List.setIfInBounds_toArray, List.set_cons_zero, List.set_cons_succ])
           go_cut [47] (fun v47 wc => ∃ (kq : Nat) (x47_43 : Bool), v47 = .bool x47_43 ∧ Aside0 (tremaref02_Class.j5 kq a0 x47_43 = some r) ∧ Aside0 (kq ≤ kj23) ∧ Drawn0 w wc)
           case first =>
            have H := HC44.out
            clear HC44
            by_cases c45 : t121 = true
            ·subst c45
             have H1 : (tremaref02_Class.j5 kj23 a0 true) = some r := by rw [if_pos rfl] at H; exact H
             clear H
             have H := H1
             clear H1
             have H' := Aside0.mk H
             clear H
             go_wp2
             go_meet
             case rel => exact ⟨_, (true), (by first | rfl | (simp; done) | (simp [*]; done)), H', ⟨by have := HJ2.out; have := HJ18.out; have := HJ23.out; first | omega | exact Nat.le_refl _⟩, by repeat (first | exact Drawn0.refl _ | apply Drawn0.step)⟩
            ·replace c45 := Bool.eq_false_iff.mpr c45
             subst c45
             have H1 : ((tremaref02_in.f a0 807 808).bind fun t122 => (tremaref02_Class.j5 kj23 a0 t122)) = some r := by rw [if_neg (show ¬ (false = true) by decide)] at H; exact H
             clear H
             have H := H1
             clear H1
             replace H := Option.bind_eq_some_iff.mp H
             obtain ⟨t122, A460, H⟩ := H
             replace H : (tremaref02_Class.j5 kj23 a0 t122) = some r := H
             have A46 := Aside0.mk A460
             clear A460
             have H' := Aside0.mk H
             clear H
             go_wp2_with (first | ((with_reducible refine gate_callee (f := 60) rfl ?_); refine goesL_ (some 51) rfl rfl Tryd.func60 (by kernel_rfl) rfl #[.int .i32 a0, .int .i32 807, .int .i32 808] rfl (by (try simp only [List.map_toArray, List.map_cons, List.map_nil]); first | done | rfl | (simp only [List.length_drop, List.length_take]; rfl)) ?_; (with_reducible refine (tremaref02_in.calls a0 807 808 t122 _ A46.out).mono ?_); rintro e w' ⟨rfl, ⟨nd, rfl⟩⟩; refine ⟨_, rfl, ?_⟩))
             go_meet
             case rel => exact ⟨_, (t122), (by first | rfl | (simp; done) | (simp [*]; done)), H', ⟨by have := HJ2.out; have := HJ18.out; have := HJ23.out; first | omega | exact Nat.le_refl _⟩, by repeat (first | exact Drawn0.refl _ | apply Drawn0.step)⟩
           case rest =>
            clear HC44
            try clear c1
            try clear c2
            try clear p2
            try clear c3
            try clear c4
            try clear c6
            try clear c8
            try clear c11
            try clear c13
            try clear c15
            try clear c17
            try clear c18
            try clear c20
            try clear c22
            try clear c23
            try clear c25
            try clear c27
            try clear c29
            try clear c32
            try clear c34
            try clear c36
            try clear c38
            try clear c40
            try clear c42
            try clear c45
            try clear p2
            obtain ⟨kq, x47_43, rfl, HA, HJ43, ⟨mc43, rfl⟩⟩ := hcut
            cases kq with
            | zero => exact absurd HA.out (by simp [tremaref02_Class.j5])
            | succ kj43 =>
             have H := HA.out
             clear HA
             simp only [tremaref02_Class.j5] at H
             by_cases c47 : x47_43 = true
             ·subst c47
              have H1 : (some 202) = some r := by rw [if_pos rfl] at H; exact H
              clear H
              have H := H1
              clear H1
              obtain rfl := Option.some.inj H
              go_wp2
              go_ret
              exact ⟨by first | rfl | (simp; done) | (simp [*]; done), by repeat (first | exact Drawn0.refl _ | apply Drawn0.step)⟩
             ·replace c47 := Bool.eq_false_iff.mpr c47
              subst c47
              have H1 : ((tremaref02_in.f a0 820 824).bind fun t123 => (if t123 = true then (some 1) else ((tremaref02_in.f a0 837 837).bind fun t124 => (if t124 = true then (some 240) else ((tremaref02_in.f a0 12441 12442).bind fun t125 => (if t125 = true then (some 8) else (some 0))))))) = some r := by rw [if_neg (show ¬ (false = true) by decide)] at H; exact H
              clear H
              have H := H1
              clear H1
              replace H := Option.bind_eq_some_iff.mp H
              obtain ⟨t123, A480, H⟩ := H
              replace H : (if t123 = true then (some 1) else ((tremaref02_in.f a0 837 837).bind fun t124 => (if t124 = true then (some 240) else ((tremaref02_in.f a0 12441 12442).bind fun t125 => (if t125 = true then (some 8) else (some 0)))))) = some r := H
              have A48 := Aside0.mk A480
              clear A480
              by_cases c49 : t123 = true
              ·subst c49
               have H1 : (some 1) = some r := by rw [if_pos rfl] at H; exact H
               clear H
               have H := H1
               clear H1
               obtain rfl := Option.some.inj H
               go_wp2_with (first | ((with_reducible refine gate_callee (f := 60) rfl ?_); refine goesL_ (some 54) rfl rfl Tryd.func60 (by kernel_rfl) rfl #[.int .i32 a0, .int .i32 820, .int .i32 824] rfl (by (try simp only [List.map_toArray, List.map_cons, List.map_nil]); first | done | rfl | (simp only [List.length_drop, List.length_take]; rfl)) ?_; (with_reducible refine (tremaref02_in.calls a0 820 824 true _ A48.out).mono ?_); rintro e w' ⟨rfl, ⟨nd, rfl⟩⟩; refine ⟨_, rfl, ?_⟩))
               go_ret
               exact ⟨by first | rfl | (simp; done) | (simp [*]; done), by repeat (first | exact Drawn0.refl _ | apply Drawn0.step)⟩
              ·replace c49 := Bool.eq_false_iff.mpr c49
               subst c49
               have H1 : ((tremaref02_in.f a0 837 837).bind fun t124 => (if t124 = true then (some 240) else ((tremaref02_in.f a0 12441 12442).bind fun t125 => (if t125 = true then (some 8) else (some 0))))) = some r := by rw [if_neg (show ¬ (false = true) by decide)] at H; exact H
               clear H
               have H := H1
               clear H1
               replace H := Option.bind_eq_some_iff.mp H
               obtain ⟨t124, A500, H⟩ := H
               replace H : (if t124 = true then (some 240) else ((tremaref02_in.f a0 12441 12442).bind fun t125 => (if t125 = true then (some 8) else (some 0)))) = some r := H
               have A50 := Aside0.mk A500
               clear A500
               by_cases c51 : t124 = true
               ·subst c51
                have H1 : (some 240) = some r := by rw [if_pos rfl] at H; exact H
                clear H
                have H := H1
                clear H1
                obtain rfl := Option.some.inj H
                go_wp2_with (first | ((with_reducible refine gate_callee (f := 60) rfl ?_); refine goesL_ (some 54) rfl rfl Tryd.func60 (by kernel_rfl) rfl #[.int .i32 a0, .int .i32 820, .int .i32 824] rfl (by (try simp only [List.map_toArray, List.map_cons, List.map_nil]); first | done | rfl | (simp only [List.length_drop, List.length_take]; rfl)) ?_; (with_reducible refine (tremaref02_in.calls a0 820 824 false _ A48.out).mono ?_); rintro e w' ⟨rfl, ⟨nd, rfl⟩⟩; refine ⟨_, rfl, ?_⟩) | ((with_reducible refine gate_callee (f := 60) rfl ?_); refine goesL_ (some 57) rfl rfl Tryd.func60 (by kernel_rfl) rfl #[.int .i32 a0, .int .i32 837, .int .i32 837] rfl (by (try simp only [List.map_toArray, List.map_cons, List.map_nil]); first | done | rfl | (simp only [List.length_drop, List.length_take]; rfl)) ?_; (with_reducible refine (tremaref02_in.calls a0 837 837 true _ A50.out).mono ?_); rintro e w' ⟨rfl, ⟨nd, rfl⟩⟩; refine ⟨_, rfl, ?_⟩))
                go_ret
                exact ⟨by first | rfl | (simp; done) | (simp [*]; done), by repeat (first | exact Drawn0.refl _ | apply Drawn0.step)⟩
               ·replace c51 := Bool.eq_false_iff.mpr c51
                subst c51
                have H1 : ((tremaref02_in.f a0 12441 12442).bind fun t125 => (if t125 = true then (some 8) else (some 0))) = some r := by rw [if_neg (show ¬ (false = true) by decide)] at H; exact H
                clear H
                have H := H1
                clear H1
                replace H := Option.bind_eq_some_iff.mp H
                obtain ⟨t125, A520, H⟩ := H
                replace H : (if t125 = true then (some 8) else (some 0)) = some r := H
                have A52 := Aside0.mk A520
                clear A520
                by_cases c53 : t125 = true
                ·subst c53
                 have H1 : (some 8) = some r := by rw [if_pos rfl] at H; exact H
                 clear H
                 have H := H1
                 clear H1
                 obtain rfl := Option.some.inj H
                 go_wp2_with (first | ((with_reducible refine gate_callee (f := 60) rfl ?_); refine goesL_ (some 54) rfl rfl Tryd.func60 (by kernel_rfl) rfl #[.int .i32 a0, .int .i32 820, .int .i32 824] rfl (by (try simp only [List.map_toArray, List.map_cons, List.map_nil]); first | done | rfl | (simp only [List.length_drop, List.length_take]; rfl)) ?_; (with_reducible refine (tremaref02_in.calls a0 820 824 false _ A48.out).mono ?_); rintro e w' ⟨rfl, ⟨nd, rfl⟩⟩; refine ⟨_, rfl, ?_⟩) | ((with_reducible refine gate_callee (f := 60) rfl ?_); refine goesL_ (some 57) rfl rfl Tryd.func60 (by kernel_rfl) rfl #[.int .i32 a0, .int .i32 837, .int .i32 837] rfl (by (try simp only [List.map_toArray, List.map_cons, List.map_nil]); first | done | rfl | (simp only [List.length_drop, List.length_take]; rfl)) ?_; (with_reducible refine (tremaref02_in.calls a0 837 837 false _ A50.out).mono ?_); rintro e w' ⟨rfl, ⟨nd, rfl⟩⟩; refine ⟨_, rfl, ?_⟩) | ((with_reducible refine gate_callee (f := 60) rfl ?_); refine goesL_ (some 60) rfl rfl Tryd.func60 (by kernel_rfl) rfl #[.int .i32 a0, .int .i32 12441, .int .i32 12442] rfl (by (try simp only [List.map_toArray, List.map_cons, List.map_nil]); first | done | rfl | (simp only [List.length_drop, List.length_take]; rfl)) ?_; (with_reducible refine (tremaref02_in.calls a0 12441 12442 true _ A52.out).mono ?_); rintro e w' ⟨rfl, ⟨nd, rfl⟩⟩; refine ⟨_, rfl, ?_⟩))
                 go_ret
                 exact ⟨by first | rfl | (simp; done) | (simp [*]; done), by repeat (first | exact Drawn0.refl _ | apply Drawn0.step)⟩
                ·replace c53 := Bool.eq_false_iff.mpr c53
                 subst c53
                 have H1 : (some 0) = some r := by rw [if_neg (show ¬ (false = true) by decide)] at H; exact H
                 clear H
                 have H := H1
                 clear H1
                 obtain rfl := Option.some.inj H
                 go_wp2_with (first | ((with_reducible refine gate_callee (f := 60) rfl ?_); refine goesL_ (some 54) rfl rfl Tryd.func60 (by kernel_rfl) rfl #[.int .i32 a0, .int .i32 820, .int .i32 824] rfl (by (try simp only [List.map_toArray, List.map_cons, List.map_nil]); first | done | rfl | (simp only [List.length_drop, List.length_take]; rfl)) ?_; (with_reducible refine (tremaref02_in.calls a0 820 824 false _ A48.out).mono ?_); rintro e w' ⟨rfl, ⟨nd, rfl⟩⟩; refine ⟨_, rfl, ?_⟩) | ((with_reducible refine gate_callee (f := 60) rfl ?_); refine goesL_ (some 57) rfl rfl Tryd.func60 (by kernel_rfl) rfl #[.int .i32 a0, .int .i32 837, .int .i32 837] rfl (by (try simp only [List.map_toArray, List.map_cons, List.map_nil]); first | done | rfl | (simp only [List.length_drop, List.length_take]; rfl)) ?_; (with_reducible refine (tremaref02_in.calls a0 837 837 false _ A50.out).mono ?_); rintro e w' ⟨rfl, ⟨nd, rfl⟩⟩; refine ⟨_, rfl, ?_⟩) | ((with_reducible refine gate_callee (f := 60) rfl ?_); refine goesL_ (some 60) rfl rfl Tryd.func60 (by kernel_rfl) rfl #[.int .i32 a0, .int .i32 12441, .int .i32 12442] rfl (by (try simp only [List.map_toArray, List.map_cons, List.map_nil]); first | done | rfl | (simp only [List.length_drop, List.length_take]; rfl)) ?_; (with_reducible refine (tremaref02_in.calls a0 12441 12442 false _ A52.out).mono ?_); rintro e w' ⟨rfl, ⟨nd, rfl⟩⟩; refine ⟨_, rfl, ?_⟩))
                 go_ret
                 exact ⟨by first | rfl | (simp; done) | (simp [*]; done), by repeat (first | exact Drawn0.refl _ | apply Drawn0.step)⟩
end Go.Proofs.YtiggjbclbdikmaaDoor.X
namespace Go.Proofs.YtiggjbclbdikmaaDoor.X
open Go.RowKit Go.Proofs.YtiggjbclbdikmaaDoorW.PrintWords Go.Proofs.YtiggjbclbdikmaaDoorW.PrintLast Go.Proofs.YtiggjbclbdikmaaDoorW.PrintMore
attribute [local go_sem] max2_int min2_int max_two min_two max_three min_three max_four min_four   
set_option linter.unusedVariables false
set_option linter.unusedSimpArgs false
def tremaref02_Trailing.f (a0 : Int) : Option (Bool) := (tremaref02_in.f a0 4449 4469).bind fun t354 => (if t354 = true then (some true) else ((tremaref02_in.f a0 4520 4546).bind fun t355 => (some t355)))
set_option maxHeartbeats 8000000 in
set_option maxRecDepth 100000 in
theorem tremaref02_Trailing.calls (a0 : Int) (r : Bool) (w : World) (h : tremaref02_Trailing.f a0 = some r) :
  Calls Tryd.prog 63 #[.int .i32 a0] w fun e w' => e = .returned (.bool r) ∧ Drawn0 w w' := by
 have H : ((tremaref02_in.f a0 4449 4469).bind fun t354 => (if t354 = true then (some true) else ((tremaref02_in.f a0 4520 4546).bind fun t355 => (some t355)))) = some r := h
 clear h
 replace H := Option.bind_eq_some_iff.mp H
 obtain ⟨t354, A20, H⟩ := H
 replace H : (if t354 = true then (some true) else ((tremaref02_in.f a0 4520 4546).bind fun t355 => (some t355))) = some r := H
 have A2 := Aside0.mk A20
 clear A20
 by_cases c3 : t354 = true
 ·subst c3
  have H1 : (some true) = some r := by rw [if_pos rfl] at H; exact H
  clear H
  have H := H1
  clear H1
  obtain rfl := Option.some.inj H
  go_enter Tryd.func63, Tryd.ntmps63
  go_wp2_with (first | ((with_reducible refine gate_callee (f := 60) rfl ?_); refine goesL_ (some 4) rfl rfl Tryd.func60 (by kernel_rfl) rfl #[.int .i32 a0, .int .i32 4449, .int .i32 4469] rfl (by (try simp only [List.map_toArray, List.map_cons, List.map_nil]); first | done | rfl | (simp only [List.length_drop, List.length_take]; rfl)) ?_; (with_reducible refine (tremaref02_in.calls a0 4449 4469 true _ A2.out).mono ?_); rintro e w' ⟨rfl, ⟨nd, rfl⟩⟩; refine ⟨_, rfl, ?_⟩))
  go_ret
  exact ⟨by first | rfl | (simp; done) | (simp [*]; done), by repeat (first | exact Drawn0.refl _ | apply Drawn0.step)⟩
 ·replace c3 := Bool.eq_false_iff.mpr c3
  subst c3
  have H1 : ((tremaref02_in.f a0 4520 4546).bind fun t355 => (some t355)) = some r := by rw [if_neg (show ¬ (false = true) by decide)] at H; exact H
  clear H
  have H := H1
  clear H1
  replace H := Option.bind_eq_some_iff.mp H
  obtain ⟨t355, A40, H⟩ := H
  replace H : (some t355) = some r := H
  have A4 := Aside0.mk A40
  clear A40
  obtain rfl := Option.some.inj H
  go_enter Tryd.func63, Tryd.ntmps63
  go_wp2_with (first | ((with_reducible refine gate_callee (f := 60) rfl ?_); refine goesL_ (some 4) rfl rfl Tryd.func60 (by kernel_rfl) rfl #[.int .i32 a0, .int .i32 4449, .int .i32 4469] rfl (by (try simp only [List.map_toArray, List.map_cons, List.map_nil]); first | done | rfl | (simp only [List.length_drop, List.length_take]; rfl)) ?_; (with_reducible refine (tremaref02_in.calls a0 4449 4469 false _ A2.out).mono ?_); rintro e w' ⟨rfl, ⟨nd, rfl⟩⟩; refine ⟨_, rfl, ?_⟩) | (go_at_call 60; (with_reducible refine (tremaref02_in.calls a0 4520 4546 t355 _ A4.out).mono ?_); rintro e w' ⟨rfl, ⟨nd, rfl⟩⟩))
  go_ret
  exact ⟨by first | rfl | (simp; done) | (simp [*]; done), by repeat (first | exact Drawn0.refl _ | apply Drawn0.step)⟩
end Go.Proofs.YtiggjbclbdikmaaDoor.X
namespace Go.Proofs.YtiggjbclbdikmaaDoor.Vr
set_option linter.unusedVariables false
set_option linter.unusedSimpArgs false
open Go.RowKit Go.Proofs.YtiggjbclbdikmaaDoorW.PrintWords Go.Proofs.YtiggjbclbdikmaaDoor.Ev0 Go.Proofs.YtiggjbclbdikmaaDoor.X Go.Proofs.YtiggjbclbdikmaaDoor.Va Go.Proofs.YtiggjbclbdikmaaDoor.Vc Go.Proofs.YtiggjbclbdikmaaDoor.Vd Go.Proofs.YtiggjbclbdikmaaDoor.Ve Go.Proofs.YtiggjbclbdikmaaDoor.Vp0
theorem rep0 (m r : Int) : ∀ B : List Int, (∀ b ∈ B, m < b) → ∃ x, x ∈ m :: B ∧ (∀ b ∈ B, (b ≤ r ↔ b ≤ x)) ∧ (x = m ∨ x ≤ r)
  | [], _ => ⟨m, List.mem_cons_self .., by simp, .inl rfl⟩
  | b :: B, h => by
    obtain ⟨x, h1, h2, h3⟩ := rep0 m r B (fun c hc => h c (List.mem_cons_of_mem _ hc))
    have hb := h b (List.mem_cons_self ..)
    by_cases c1 : b ≤ r
    · by_cases c2 : x < b
      · refine ⟨b, by simp, fun c hc => ?_, .inr c1⟩
        rcases List.mem_cons.1 hc with rfl | hc
        · exact ⟨fun _ => Int.le_refl _, fun _ => c1⟩
        · have := h2 c hc
          omega
      · refine ⟨x, ?_, fun c hc => ?_, h3⟩
        · rcases List.mem_cons.1 h1 with rfl | h1 <;> simp [*]
        · rcases List.mem_cons.1 hc with rfl | hc
          · omega
          · exact h2 c hc
    · refine ⟨x, ?_, fun c hc => ?_, h3⟩
      · rcases List.mem_cons.1 h1 with rfl | h1 <;> simp [*]
      · rcases List.mem_cons.1 hc with rfl | hc
        · omega
        · exact h2 c hc
theorem rep (B : List Int) (r : Int) (h : ∀ b ∈ B, -1 < b) : ∃ x, x ∈ -1 :: B ∧ ∀ b ∈ B, (b ≤ r ↔ b ≤ x) := by
  obtain ⟨x, h1, h2, -⟩ := rep0 (-1) r B h
  exact ⟨x, h1, h2⟩
theorem in_of {r x lo hi : Int} (h1 : lo ≤ r ↔ lo ≤ x) (h2 : hi + 1 ≤ r ↔ hi + 1 ≤ x) : tremaref02_in.f r lo hi = tremaref02_in.f x lo hi := by
  unfold tremaref02_in.f
  by_cases c : lo ≤ r
  · rw [if_pos c, if_pos (h1.1 c)]
    congr 1
    rw [decide_eq_decide]
    omega
  · rw [if_neg c, if_neg (fun h => c (h1.2 h))]
def clsB : List Int := [768, 789, 790, 794, 795, 796, 801, 803, 807, 809, 820, 825, 829, 837, 838, 839, 842, 845, 847, 848, 851, 855, 856, 8400, 8402, 12441, 12443]
theorem clsF_of {r x : Int} (hx : ∀ b ∈ clsB, (b ≤ r ↔ b ≤ x)) : ∀ l : List (Int × Int × Int), (∀ p ∈ l, p.1 ∈ clsB ∧ p.2.1 + 1 ∈ clsB) → clsF r l = clsF x l
  | [], _ => rfl
  | p :: t, h => by
    have h1 := h p (List.mem_cons_self ..)
    have a1 := hx _ h1.1
    have a2 := hx _ h1.2
    rw [clsF, clsF, clsF_of hx t (fun q hq => h q (List.mem_cons_of_mem _ hq))]
    by_cases c : p.1 ≤ r ∧ r ≤ p.2.1
    · rw [if_pos c, if_pos (by omega)]
    · rw [if_neg c, if_neg (by omega)]
theorem clsB_at : ∀ x ∈ -1 :: clsB, tremaref02_Class.f 30 x = some (cls x) := by decide +kernel
theorem refcls (r : Int) : tremaref02_Class.f 30 r = some (cls r) := by
  obtain ⟨x, hx1, hx⟩ := rep clsB r (by decide)
  have hc : cls r = cls x := clsF_of hx clsT (by decide)
  have e0 := in_of (lo := 789) (hi := 789) (hx _ (by decide : (789 : Int) ∈ clsB)) (hx _ (by decide : (790 : Int) ∈ clsB))
  have e1 := in_of (lo := 794) (hi := 794) (hx _ (by decide : (794 : Int) ∈ clsB)) (hx _ (by decide : (795 : Int) ∈ clsB))
  have e2 := in_of (lo := 790) (hi := 793) (hx _ (by decide : (790 : Int) ∈ clsB)) (hx _ (by decide : (794 : Int) ∈ clsB))
  have e3 := in_of (lo := 796) (hi := 800) (hx _ (by decide : (796 : Int) ∈ clsB)) (hx _ (by decide : (801 : Int) ∈ clsB))
  have e4 := in_of (lo := 803) (hi := 806) (hx _ (by decide : (803 : Int) ∈ clsB)) (hx _ (by decide : (807 : Int) ∈ clsB))
  have e5 := in_of (lo := 809) (hi := 819) (hx _ (by decide : (809 : Int) ∈ clsB)) (hx _ (by decide : (820 : Int) ∈ clsB))
  have e6 := in_of (lo := 825) (hi := 828) (hx _ (by decide : (825 : Int) ∈ clsB)) (hx _ (by decide : (829 : Int) ∈ clsB))
  have e7 := in_of (lo := 795) (hi := 795) (hx _ (by decide : (795 : Int) ∈ clsB)) (hx _ (by decide : (796 : Int) ∈ clsB))
  have e8 := in_of (lo := 801) (hi := 802) (hx _ (by decide : (801 : Int) ∈ clsB)) (hx _ (by decide : (803 : Int) ∈ clsB))
  have e9 := in_of (lo := 807) (hi := 808) (hx _ (by decide : (807 : Int) ∈ clsB)) (hx _ (by decide : (809 : Int) ∈ clsB))
  have e10 := in_of (lo := 820) (hi := 824) (hx _ (by decide : (820 : Int) ∈ clsB)) (hx _ (by decide : (825 : Int) ∈ clsB))
  have e11 := in_of (lo := 837) (hi := 837) (hx _ (by decide : (837 : Int) ∈ clsB)) (hx _ (by decide : (838 : Int) ∈ clsB))
  have e12 := in_of (lo := 12441) (hi := 12442) (hx _ (by decide : (12441 : Int) ∈ clsB)) (hx _ (by decide : (12443 : Int) ∈ clsB))
  have e13 := in_of (lo := 839) (hi := 841) (hx _ (by decide : (839 : Int) ∈ clsB)) (hx _ (by decide : (842 : Int) ∈ clsB))
  have e14 := in_of (lo := 845) (hi := 846) (hx _ (by decide : (845 : Int) ∈ clsB)) (hx _ (by decide : (847 : Int) ∈ clsB))
  have e15 := in_of (lo := 851) (hi := 854) (hx _ (by decide : (851 : Int) ∈ clsB)) (hx _ (by decide : (855 : Int) ∈ clsB))
  have e16 := in_of (lo := 855) (hi := 855) (hx _ (by decide : (855 : Int) ∈ clsB)) (hx _ (by decide : (856 : Int) ∈ clsB))
  have e17 := in_of (lo := 8400) (hi := 8401) (hx _ (by decide : (8400 : Int) ∈ clsB)) (hx _ (by decide : (8402 : Int) ∈ clsB))
  have e18 := in_of (lo := 768) (hi := 788) (hx _ (by decide : (768 : Int) ∈ clsB)) (hx _ (by decide : (789 : Int) ∈ clsB))
  have e19 := in_of (lo := 829) (hi := 836) (hx _ (by decide : (829 : Int) ∈ clsB)) (hx _ (by decide : (837 : Int) ∈ clsB))
  have e20 := in_of (lo := 838) (hi := 838) (hx _ (by decide : (838 : Int) ∈ clsB)) (hx _ (by decide : (839 : Int) ∈ clsB))
  have e21 := in_of (lo := 842) (hi := 844) (hx _ (by decide : (842 : Int) ∈ clsB)) (hx _ (by decide : (845 : Int) ∈ clsB))
  have e22 := in_of (lo := 848) (hi := 850) (hx _ (by decide : (848 : Int) ∈ clsB)) (hx _ (by decide : (851 : Int) ∈ clsB))
  rw [hc, ← clsB_at x hx1]
  simp only [tremaref02_Class.f, tremaref02_Class.j0, tremaref02_Class.j1, tremaref02_Class.j2, tremaref02_Class.j3, tremaref02_Class.j4, tremaref02_Class.j5, e0, e1, e2, e3, e4, e5, e6, e7, e8, e9, e10, e11, e12, e13, e14, e15, e16, e17, e18, e19, e20, e21, e22]
theorem clsEv (r : Int) : Ev (fun k => tremaref02_Class.f k r) (cls r) := Ev.of (tremaref02_Class.mono r) (refcls r)
end Go.Proofs.YtiggjbclbdikmaaDoor.Vr
namespace Go.Proofs.YtiggjbclbdikmaaDoor.X
open Go.RowKit Go.Proofs.YtiggjbclbdikmaaDoorW.PrintWords Go.Proofs.YtiggjbclbdikmaaDoorW.PrintLast Go.Proofs.YtiggjbclbdikmaaDoorW.PrintMore
attribute [local go_sem] max2_int min2_int max_two min_two max_three min_three max_four min_four   
set_option linter.unusedVariables false
set_option linter.unusedSimpArgs false
def tremaref02_few.f (a0 : Int) : Option (Int × Int × Int) := if a0 = 469 then (some (220, 772, 2)) else (if a0 = 470 then (some (252, 772, 2)) else (if a0 = 832 then (some (768, 0, 1)) else (if a0 = 833 then (some (769, 0, 1)) else (if a0 = 835 then (some (787, 0, 1)) else (if a0 = 836 then (some (776, 769, 2)) else (if a0 = 902 then (some (913, 769, 2)) else (if a0 = 912 then (some (970, 769, 2)) else (if a0 = 940 then (some (945, 769, 2)) else (if a0 = 943 then (some (953, 769, 2)) else (if a0 = 970 then (some (953, 776, 2)) else (if a0 = 972 then (some (959, 769, 2)) else (if a0 = 7691 then (some (100, 775, 2)) else (if a0 = 7693 then (some (100, 803, 2)) else (if a0 = 7777 then (some (115, 775, 2)) else (if a0 = 7779 then (some (115, 803, 2)) else (if a0 = 7785 then (some (7779, 775, 2)) else (if a0 = 7841 then (some (97, 803, 2)) else (if a0 = 7844 then (some (194, 769, 2)) else (if a0 = 7845 then (some (226, 769, 2)) else (if a0 = 7863 then (some (7841, 774, 2)) else (if a0 = 7865 then (some (101, 803, 2)) else (if a0 = 7879 then (some (7865, 770, 2)) else (if a0 = 8049 then (some (940, 0, 1)) else (if a0 = 8115 then (some (945, 837, 2)) else (if a0 = 8486 then (some (937, 0, 1)) else (if a0 = 8490 then (some (75, 0, 1)) else (if a0 = 8491 then (some (197, 0, 1)) else (if a0 = 8800 then (some (61, 824, 2)) else (if a0 = 12364 then (some (12363, 12441, 2)) else (if a0 = 12497 then (some (12495, 12442, 2)) else (some (0, 0, 0))))))))))))))))))))))))))))))))
set_option maxHeartbeats 8000000 in
set_option maxRecDepth 100000 in
theorem tremaref02_few.calls (a0 : Int) (r1 : Int) (r2 : Int) (r3 : Int) (w : World) (h : tremaref02_few.f a0 = some (r1, r2, r3)) :
  Calls Tryd.prog 86 #[.int .i32 a0] w fun e w' => e = .returned (.tuple #[.int .i32 r1, .int .i32 r2, .int .i64 r3]) ∧ Drawn0 w w' := by
 have H : (if a0 = 469 then (some (220, 772, 2)) else (if a0 = 470 then (some (252, 772, 2)) else (if a0 = 832 then (some (768, 0, 1)) else (if a0 = 833 then (some (769, 0, 1)) else (if a0 = 835 then (some (787, 0, 1)) else (if a0 = 836 then (some (776, 769, 2)) else (if a0 = 902 then (some (913, 769, 2)) else (if a0 = 912 then (some (970, 769, 2)) else (if a0 = 940 then (some (945, 769, 2)) else (if a0 = 943 then (some (953, 769, 2)) else (if a0 = 970 then (some (953, 776, 2)) else (if a0 = 972 then (some (959, 769, 2)) else (if a0 = 7691 then (some (100, 775, 2)) else (if a0 = 7693 then (some (100, 803, 2)) else (if a0 = 7777 then (some (115, 775, 2)) else (if a0 = 7779 then (some (115, 803, 2)) else (if a0 = 7785 then (some (7779, 775, 2)) else (if a0 = 7841 then (some (97, 803, 2)) else (if a0 = 7844 then (some (194, 769, 2)) else (if a0 = 7845 then (some (226, 769, 2)) else (if a0 = 7863 then (some (7841, 774, 2)) else (if a0 = 7865 then (some (101, 803, 2)) else (if a0 = 7879 then (some (7865, 770, 2)) else (if a0 = 8049 then (some (940, 0, 1)) else (if a0 = 8115 then (some (945, 837, 2)) else (if a0 = 8486 then (some (937, 0, 1)) else (if a0 = 8490 then (some (75, 0, 1)) else (if a0 = 8491 then (some (197, 0, 1)) else (if a0 = 8800 then (some (61, 824, 2)) else (if a0 = 12364 then (some (12363, 12441, 2)) else (if a0 = 12497 then (some (12495, 12442, 2)) else (some (0, 0, 0))))))))))))))))))))))))))))))))) = some (r1, r2, r3) := h
 clear h
 by_cases c2 : a0 = 469
 ·rw [if_pos c2] at H
  have c2b0 : (a0 == 469) = true := beq_iff_eq.mpr c2
  have c2b1 : (a0 != 469) = false := bne_eq_false_iff_eq.mpr c2
  clear c2
  simp only [Option.some.injEq, Prod.mk.injEq] at H
  obtain ⟨rfl, rfl, rfl⟩ := H
  go_enter Tryd.func86, Tryd.ntmps86
  go_wp2
  go_ret3
  exact ⟨by first | rfl | (simp; done) | (simp [*]; done), by repeat (first | exact Drawn0.refl _ | apply Drawn0.step)⟩
 ·rw [if_neg c2] at H
  have c2b0 : (a0 == 469) = false := beq_eq_false_iff_ne.mpr c2
  have c2b1 : (a0 != 469) = true := bne_iff_ne.mpr c2
  by_cases c3 : a0 = 470
  ·rw [if_pos c3] at H
   have c3b0 : (a0 == 470) = true := beq_iff_eq.mpr c3
   have c3b1 : (a0 != 470) = false := bne_eq_false_iff_eq.mpr c3
   clear c3
   simp only [Option.some.injEq, Prod.mk.injEq] at H
   obtain ⟨rfl, rfl, rfl⟩ := H
   go_enter Tryd.func86, Tryd.ntmps86
   go_wp2
   go_ret3
   exact ⟨by first | rfl | (simp; done) | (simp [*]; done), by repeat (first | exact Drawn0.refl _ | apply Drawn0.step)⟩
  ·rw [if_neg c3] at H
   have c3b0 : (a0 == 470) = false := beq_eq_false_iff_ne.mpr c3
   have c3b1 : (a0 != 470) = true := bne_iff_ne.mpr c3
   by_cases c4 : a0 = 832
   ·rw [if_pos c4] at H
    have c4b0 : (a0 == 832) = true := beq_iff_eq.mpr c4
    have c4b1 : (a0 != 832) = false := bne_eq_false_iff_eq.mpr c4
    clear c4
    simp only [Option.some.injEq, Prod.mk.injEq] at H
    obtain ⟨rfl, rfl, rfl⟩ := H
    go_enter Tryd.func86, Tryd.ntmps86
    go_wp2
    go_ret3
    exact ⟨by first | rfl | (simp; done) | (simp [*]; done), by repeat (first | exact Drawn0.refl _ | apply Drawn0.step)⟩
   ·rw [if_neg c4] at H
    have c4b0 : (a0 == 832) = false := beq_eq_false_iff_ne.mpr c4
    have c4b1 : (a0 != 832) = true := bne_iff_ne.mpr c4
    by_cases c5 : a0 = 833
    ·rw [if_pos c5] at H
     have c5b0 : (a0 == 833) = true := beq_iff_eq.mpr c5
     have c5b1 : (a0 != 833) = false := bne_eq_false_iff_eq.mpr c5
     clear c5
     simp only [Option.some.injEq, Prod.mk.injEq] at H
     obtain ⟨rfl, rfl, rfl⟩ := H
     go_enter Tryd.func86, Tryd.ntmps86
     go_wp2
     go_ret3
     exact ⟨by first | rfl | (simp; done) | (simp [*]; done), by repeat (first | exact Drawn0.refl _ | apply Drawn0.step)⟩
    ·rw [if_neg c5] at H
     have c5b0 : (a0 == 833) = false := beq_eq_false_iff_ne.mpr c5
     have c5b1 : (a0 != 833) = true := bne_iff_ne.mpr c5
     by_cases c6 : a0 = 835
     ·rw [if_pos c6] at H
      have c6b0 : (a0 == 835) = true := beq_iff_eq.mpr c6
      have c6b1 : (a0 != 835) = false := bne_eq_false_iff_eq.mpr c6
      clear c6
      simp only [Option.some.injEq, Prod.mk.injEq] at H
      obtain ⟨rfl, rfl, rfl⟩ := H
      go_enter Tryd.func86, Tryd.ntmps86
      go_wp2
      go_ret3
      exact ⟨by first | rfl | (simp; done) | (simp [*]; done), by repeat (first | exact Drawn0.refl _ | apply Drawn0.step)⟩
     ·rw [if_neg c6] at H
      have c6b0 : (a0 == 835) = false := beq_eq_false_iff_ne.mpr c6
      have c6b1 : (a0 != 835) = true := bne_iff_ne.mpr c6
      by_cases c7 : a0 = 836
      ·rw [if_pos c7] at H
       have c7b0 : (a0 == 836) = true := beq_iff_eq.mpr c7
       have c7b1 : (a0 != 836) = false := bne_eq_false_iff_eq.mpr c7
       clear c7
       simp only [Option.some.injEq, Prod.mk.injEq] at H
       obtain ⟨rfl, rfl, rfl⟩ := H
       go_enter Tryd.func86, Tryd.ntmps86
       go_wp2
       go_ret3
       exact ⟨by first | rfl | (simp; done) | (simp [*]; done), by repeat (first | exact Drawn0.refl _ | apply Drawn0.step)⟩
      ·rw [if_neg c7] at H
       have c7b0 : (a0 == 836) = false := beq_eq_false_iff_ne.mpr c7
       have c7b1 : (a0 != 836) = true := bne_iff_ne.mpr c7
       by_cases c8 : a0 = 902
       ·rw [if_pos c8] at H
        have c8b0 : (a0 == 902) = true := beq_iff_eq.mpr c8
        have c8b1 : (a0 != 902) = false := bne_eq_false_iff_eq.mpr c8
        clear c8
        simp only [Option.some.injEq, Prod.mk.injEq] at H
        obtain ⟨rfl, rfl, rfl⟩ := H
        go_enter Tryd.func86, Tryd.ntmps86
        go_wp2
        go_ret3
        exact ⟨by first | rfl | (simp; done) | (simp [*]; done), by repeat (first | exact Drawn0.refl _ | apply Drawn0.step)⟩
       ·rw [if_neg c8] at H
        have c8b0 : (a0 == 902) = false := beq_eq_false_iff_ne.mpr c8
        have c8b1 : (a0 != 902) = true := bne_iff_ne.mpr c8
        by_cases c9 : a0 = 912
        ·rw [if_pos c9] at H
         have c9b0 : (a0 == 912) = true := beq_iff_eq.mpr c9
         have c9b1 : (a0 != 912) = false := bne_eq_false_iff_eq.mpr c9
         clear c9
         simp only [Option.some.injEq, Prod.mk.injEq] at H
         obtain ⟨rfl, rfl, rfl⟩ := H
         go_enter Tryd.func86, Tryd.ntmps86
         go_wp2
         go_ret3
         exact ⟨by first | rfl | (simp; done) | (simp [*]; done), by repeat (first | exact Drawn0.refl _ | apply Drawn0.step)⟩
        ·rw [if_neg c9] at H
         have c9b0 : (a0 == 912) = false := beq_eq_false_iff_ne.mpr c9
         have c9b1 : (a0 != 912) = true := bne_iff_ne.mpr c9
         by_cases c10 : a0 = 940
         ·rw [if_pos c10] at H
          have c10b0 : (a0 == 940) = true := beq_iff_eq.mpr c10
          have c10b1 : (a0 != 940) = false := bne_eq_false_iff_eq.mpr c10
          clear c10
          simp only [Option.some.injEq, Prod.mk.injEq] at H
          obtain ⟨rfl, rfl, rfl⟩ := H
          go_enter Tryd.func86, Tryd.ntmps86
          go_wp2
          go_ret3
          exact ⟨by first | rfl | (simp; done) | (simp [*]; done), by repeat (first | exact Drawn0.refl _ | apply Drawn0.step)⟩
         ·rw [if_neg c10] at H
          have c10b0 : (a0 == 940) = false := beq_eq_false_iff_ne.mpr c10
          have c10b1 : (a0 != 940) = true := bne_iff_ne.mpr c10
          by_cases c11 : a0 = 943
          ·rw [if_pos c11] at H
           have c11b0 : (a0 == 943) = true := beq_iff_eq.mpr c11
           have c11b1 : (a0 != 943) = false := bne_eq_false_iff_eq.mpr c11
           clear c11
           simp only [Option.some.injEq, Prod.mk.injEq] at H
           obtain ⟨rfl, rfl, rfl⟩ := H
           go_enter Tryd.func86, Tryd.ntmps86
           go_wp2
           go_ret3
           exact ⟨by first | rfl | (simp; done) | (simp [*]; done), by repeat (first | exact Drawn0.refl _ | apply Drawn0.step)⟩
          ·rw [if_neg c11] at H
           have c11b0 : (a0 == 943) = false := beq_eq_false_iff_ne.mpr c11
           have c11b1 : (a0 != 943) = true := bne_iff_ne.mpr c11
           by_cases c12 : a0 = 970
           ·rw [if_pos c12] at H
            have c12b0 : (a0 == 970) = true := beq_iff_eq.mpr c12
            have c12b1 : (a0 != 970) = false := bne_eq_false_iff_eq.mpr c12
            clear c12
            simp only [Option.some.injEq, Prod.mk.injEq] at H
            obtain ⟨rfl, rfl, rfl⟩ := H
            go_enter Tryd.func86, Tryd.ntmps86
            go_wp2
            go_ret3
            exact ⟨by first | rfl | (simp; done) | (simp [*]; done), by repeat (first | exact Drawn0.refl _ | apply Drawn0.step)⟩
           ·rw [if_neg c12] at H
            have c12b0 : (a0 == 970) = false := beq_eq_false_iff_ne.mpr c12
            have c12b1 : (a0 != 970) = true := bne_iff_ne.mpr c12
            by_cases c13 : a0 = 972
            ·rw [if_pos c13] at H
             have c13b0 : (a0 == 972) = true := beq_iff_eq.mpr c13
             have c13b1 : (a0 != 972) = false := bne_eq_false_iff_eq.mpr c13
             clear c13
             simp only [Option.some.injEq, Prod.mk.injEq] at H
             obtain ⟨rfl, rfl, rfl⟩ := H
             go_enter Tryd.func86, Tryd.ntmps86
             go_wp2
             go_ret3
             exact ⟨by first | rfl | (simp; done) | (simp [*]; done), by repeat (first | exact Drawn0.refl _ | apply Drawn0.step)⟩
            ·rw [if_neg c13] at H
             have c13b0 : (a0 == 972) = false := beq_eq_false_iff_ne.mpr c13
             have c13b1 : (a0 != 972) = true := bne_iff_ne.mpr c13
             by_cases c14 : a0 = 7691
             ·rw [if_pos c14] at H
              have c14b0 : (a0 == 7691) = true := beq_iff_eq.mpr c14
              have c14b1 : (a0 != 7691) = false := bne_eq_false_iff_eq.mpr c14
              clear c14
              simp only [Option.some.injEq, Prod.mk.injEq] at H
              obtain ⟨rfl, rfl, rfl⟩ := H
              go_enter Tryd.func86, Tryd.ntmps86
              go_wp2
              go_ret3
              exact ⟨by first | rfl | (simp; done) | (simp [*]; done), by repeat (first | exact Drawn0.refl _ | apply Drawn0.step)⟩
             ·rw [if_neg c14] at H
              have c14b0 : (a0 == 7691) = false := beq_eq_false_iff_ne.mpr c14
              have c14b1 : (a0 != 7691) = true := bne_iff_ne.mpr c14
              by_cases c15 : a0 = 7693
              ·rw [if_pos c15] at H
               have c15b0 : (a0 == 7693) = true := beq_iff_eq.mpr c15
               have c15b1 : (a0 != 7693) = false := bne_eq_false_iff_eq.mpr c15
               clear c15
               simp only [Option.some.injEq, Prod.mk.injEq] at H
               obtain ⟨rfl, rfl, rfl⟩ := H
               go_enter Tryd.func86, Tryd.ntmps86
               go_wp2
               go_ret3
               exact ⟨by first | rfl | (simp; done) | (simp [*]; done), by repeat (first | exact Drawn0.refl _ | apply Drawn0.step)⟩
              ·rw [if_neg c15] at H
               have c15b0 : (a0 == 7693) = false := beq_eq_false_iff_ne.mpr c15
               have c15b1 : (a0 != 7693) = true := bne_iff_ne.mpr c15
               by_cases c16 : a0 = 7777
               ·rw [if_pos c16] at H
                have c16b0 : (a0 == 7777) = true := beq_iff_eq.mpr c16
                have c16b1 : (a0 != 7777) = false := bne_eq_false_iff_eq.mpr c16
                clear c16
                simp only [Option.some.injEq, Prod.mk.injEq] at H
                obtain ⟨rfl, rfl, rfl⟩ := H
                go_enter Tryd.func86, Tryd.ntmps86
                go_wp2
                go_ret3
                exact ⟨by first | rfl | (simp; done) | (simp [*]; done), by repeat (first | exact Drawn0.refl _ | apply Drawn0.step)⟩
               ·rw [if_neg c16] at H
                have c16b0 : (a0 == 7777) = false := beq_eq_false_iff_ne.mpr c16
                have c16b1 : (a0 != 7777) = true := bne_iff_ne.mpr c16
                by_cases c17 : a0 = 7779
                ·rw [if_pos c17] at H
                 have c17b0 : (a0 == 7779) = true := beq_iff_eq.mpr c17
                 have c17b1 : (a0 != 7779) = false := bne_eq_false_iff_eq.mpr c17
                 clear c17
                 simp only [Option.some.injEq, Prod.mk.injEq] at H
                 obtain ⟨rfl, rfl, rfl⟩ := H
                 go_enter Tryd.func86, Tryd.ntmps86
                 go_wp2
                 go_ret3
                 exact ⟨by first | rfl | (simp; done) | (simp [*]; done), by repeat (first | exact Drawn0.refl _ | apply Drawn0.step)⟩
                ·rw [if_neg c17] at H
                 have c17b0 : (a0 == 7779) = false := beq_eq_false_iff_ne.mpr c17
                 have c17b1 : (a0 != 7779) = true := bne_iff_ne.mpr c17
                 by_cases c18 : a0 = 7785
                 ·rw [if_pos c18] at H
                  have c18b0 : (a0 == 7785) = true := beq_iff_eq.mpr c18
                  have c18b1 : (a0 != 7785) = false := bne_eq_false_iff_eq.mpr c18
                  clear c18
                  simp only [Option.some.injEq, Prod.mk.injEq] at H
                  obtain ⟨rfl, rfl, rfl⟩ := H
                  go_enter Tryd.func86, Tryd.ntmps86
                  go_wp2
                  go_ret3
                  exact ⟨by first | rfl | (simp; done) | (simp [*]; done), by repeat (first | exact Drawn0.refl _ | apply Drawn0.step)⟩
                 ·rw [if_neg c18] at H
                  have c18b0 : (a0 == 7785) = false := beq_eq_false_iff_ne.mpr c18
                  have c18b1 : (a0 != 7785) = true := bne_iff_ne.mpr c18
                  by_cases c19 : a0 = 7841
                  ·rw [if_pos c19] at H
                   have c19b0 : (a0 == 7841) = true := beq_iff_eq.mpr c19
                   have c19b1 : (a0 != 7841) = false := bne_eq_false_iff_eq.mpr c19
                   clear c19
                   simp only [Option.some.injEq, Prod.mk.injEq] at H
                   obtain ⟨rfl, rfl, rfl⟩ := H
                   go_enter Tryd.func86, Tryd.ntmps86
                   go_wp2
                   go_ret3
                   exact ⟨by first | rfl | (simp; done) | (simp [*]; done), by repeat (first | exact Drawn0.refl _ | apply Drawn0.step)⟩
                  ·rw [if_neg c19] at H
                   have c19b0 : (a0 == 7841) = false := beq_eq_false_iff_ne.mpr c19
                   have c19b1 : (a0 != 7841) = true := bne_iff_ne.mpr c19
                   by_cases c20 : a0 = 7844
                   ·rw [if_pos c20] at H
                    have c20b0 : (a0 == 7844) = true := beq_iff_eq.mpr c20
                    have c20b1 : (a0 != 7844) = false := bne_eq_false_iff_eq.mpr c20
                    clear c20
                    simp only [Option.some.injEq, Prod.mk.injEq] at H
                    obtain ⟨rfl, rfl, rfl⟩ := H
                    go_enter Tryd.func86, Tryd.ntmps86
                    go_wp2
                    go_ret3
                    exact ⟨by first | rfl | (simp; done) | (simp [*]; done), by repeat (first | exact Drawn0.refl _ | apply Drawn0.step)⟩
                   ·rw [if_neg c20] at H
                    have c20b0 : (a0 == 7844) = false := beq_eq_false_iff_ne.mpr c20
                    have c20b1 : (a0 != 7844) = true := bne_iff_ne.mpr c20
                    by_cases c21 : a0 = 7845
                    ·rw [if_pos c21] at H
                     have c21b0 : (a0 == 7845) = true := beq_iff_eq.mpr c21
                     have c21b1 : (a0 != 7845) = false := bne_eq_false_iff_eq.mpr c21
                     clear c21
                     simp only [Option.some.injEq, Prod.mk.injEq] at H
                     obtain ⟨rfl, rfl, rfl⟩ := H
                     go_enter Tryd.func86, Tryd.ntmps86
                     go_wp2
                     go_ret3
                     exact ⟨by first | rfl | (simp; done) | (simp [*]; done), by repeat (first | exact Drawn0.refl _ | apply Drawn0.step)⟩
                    ·rw [if_neg c21] at H
                     have c21b0 : (a0 == 7845) = false := beq_eq_false_iff_ne.mpr c21
                     have c21b1 : (a0 != 7845) = true := bne_iff_ne.mpr c21
                     by_cases c22 : a0 = 7863
                     ·rw [if_pos c22] at H
                      have c22b0 : (a0 == 7863) = true := beq_iff_eq.mpr c22
                      have c22b1 : (a0 != 7863) = false := bne_eq_false_iff_eq.mpr c22
                      clear c22
                      simp only [Option.some.injEq, Prod.mk.injEq] at H
                      obtain ⟨rfl, rfl, rfl⟩ := H
                      go_enter Tryd.func86, Tryd.ntmps86
                      go_wp2
                      go_ret3
                      exact ⟨by first | rfl | (simp; done) | (simp [*]; done), by repeat (first | exact Drawn0.refl _ | apply Drawn0.step)⟩
                     ·rw [if_neg c22] at H
                      have c22b0 : (a0 == 7863) = false := beq_eq_false_iff_ne.mpr c22
                      have c22b1 : (a0 != 7863) = true := bne_iff_ne.mpr c22
                      by_cases c23 : a0 = 7865
                      ·rw [if_pos c23] at H
                       have c23b0 : (a0 == 7865) = true := beq_iff_eq.mpr c23
                       have c23b1 : (a0 != 7865) = false := bne_eq_false_iff_eq.mpr c23
                       clear c23
                       simp only [Option.some.injEq, Prod.mk.injEq] at H
                       obtain ⟨rfl, rfl, rfl⟩ := H
                       go_enter Tryd.func86, Tryd.ntmps86
                       go_wp2
                       go_ret3
                       exact ⟨by first | rfl | (simp; done) | (simp [*]; done), by repeat (first | exact Drawn0.refl _ | apply Drawn0.step)⟩
                      ·rw [if_neg c23] at H
                       have c23b0 : (a0 == 7865) = false := beq_eq_false_iff_ne.mpr c23
                       have c23b1 : (a0 != 7865) = true := bne_iff_ne.mpr c23
                       by_cases c24 : a0 = 7879
                       ·rw [if_pos c24] at H
                        have c24b0 : (a0 == 7879) = true := beq_iff_eq.mpr c24
                        have c24b1 : (a0 != 7879) = false := bne_eq_false_iff_eq.mpr c24
                        clear c24
                        simp only [Option.some.injEq, Prod.mk.injEq] at H
                        obtain ⟨rfl, rfl, rfl⟩ := H
                        go_enter Tryd.func86, Tryd.ntmps86
                        go_wp2
                        go_ret3
                        exact ⟨by first | rfl | (simp; done) | (simp [*]; done), by repeat (first | exact Drawn0.refl _ | apply Drawn0.step)⟩
                       ·rw [if_neg c24] at H
                        have c24b0 : (a0 == 7879) = false := beq_eq_false_iff_ne.mpr c24
                        have c24b1 : (a0 != 7879) = true := bne_iff_ne.mpr c24
                        by_cases c25 : a0 = 8049
                        ·rw [if_pos c25] at H
                         have c25b0 : (a0 == 8049) = true := beq_iff_eq.mpr c25
                         have c25b1 : (a0 != 8049) = false := bne_eq_false_iff_eq.mpr c25
                         clear c25
                         simp only [Option.some.injEq, Prod.mk.injEq] at H
                         obtain ⟨rfl, rfl, rfl⟩ := H
                         go_enter Tryd.func86, Tryd.ntmps86
                         go_wp2
                         go_ret3
                         exact ⟨by first | rfl | (simp; done) | (simp [*]; done), by repeat (first | exact Drawn0.refl _ | apply Drawn0.step)⟩
                        ·rw [if_neg c25] at H
                         have c25b0 : (a0 == 8049) = false := beq_eq_false_iff_ne.mpr c25
                         have c25b1 : (a0 != 8049) = true := bne_iff_ne.mpr c25
                         by_cases c26 : a0 = 8115
                         ·rw [if_pos c26] at H
                          have c26b0 : (a0 == 8115) = true := beq_iff_eq.mpr c26
                          have c26b1 : (a0 != 8115) = false := bne_eq_false_iff_eq.mpr c26
                          clear c26
                          simp only [Option.some.injEq, Prod.mk.injEq] at H
                          obtain ⟨rfl, rfl, rfl⟩ := H
                          go_enter Tryd.func86, Tryd.ntmps86
                          go_wp2
                          go_ret3
                          exact ⟨by first | rfl | (simp; done) | (simp [*]; done), by repeat (first | exact Drawn0.refl _ | apply Drawn0.step)⟩
                         ·rw [if_neg c26] at H
                          have c26b0 : (a0 == 8115) = false := beq_eq_false_iff_ne.mpr c26
                          have c26b1 : (a0 != 8115) = true := bne_iff_ne.mpr c26
                          by_cases c27 : a0 = 8486
                          ·rw [if_pos c27] at H
                           have c27b0 : (a0 == 8486) = true := beq_iff_eq.mpr c27
                           have c27b1 : (a0 != 8486) = false := bne_eq_false_iff_eq.mpr c27
                           clear c27
                           simp only [Option.some.injEq, Prod.mk.injEq] at H
                           obtain ⟨rfl, rfl, rfl⟩ := H
                           go_enter Tryd.func86, Tryd.ntmps86
                           go_wp2
                           go_ret3
                           exact ⟨by first | rfl | (simp; done) | (simp [*]; done), by repeat (first | exact Drawn0.refl _ | apply Drawn0.step)⟩
                          ·rw [if_neg c27] at H
                           have c27b0 : (a0 == 8486) = false := beq_eq_false_iff_ne.mpr c27
                           have c27b1 : (a0 != 8486) = true := bne_iff_ne.mpr c27
                           by_cases c28 : a0 = 8490
                           ·rw [if_pos c28] at H
                            have c28b0 : (a0 == 8490) = true := beq_iff_eq.mpr c28
                            have c28b1 : (a0 != 8490) = false := bne_eq_false_iff_eq.mpr c28
                            clear c28
                            simp only [Option.some.injEq, Prod.mk.injEq] at H
                            obtain ⟨rfl, rfl, rfl⟩ := H
                            go_enter Tryd.func86, Tryd.ntmps86
                            go_wp2
                            go_ret3
                            exact ⟨by first | rfl | (simp; done) | (simp [*]; done), by repeat (first | exact Drawn0.refl _ | apply Drawn0.step)⟩
                           ·rw [if_neg c28] at H
                            have c28b0 : (a0 == 8490) = false := beq_eq_false_iff_ne.mpr c28
                            have c28b1 : (a0 != 8490) = true := bne_iff_ne.mpr c28
                            by_cases c29 : a0 = 8491
                            ·rw [if_pos c29] at H
                             have c29b0 : (a0 == 8491) = true := beq_iff_eq.mpr c29
                             have c29b1 : (a0 != 8491) = false := bne_eq_false_iff_eq.mpr c29
                             clear c29
                             simp only [Option.some.injEq, Prod.mk.injEq] at H
                             obtain ⟨rfl, rfl, rfl⟩ := H
                             go_enter Tryd.func86, Tryd.ntmps86
                             go_wp2
                             go_ret3
                             exact ⟨by first | rfl | (simp; done) | (simp [*]; done), by repeat (first | exact Drawn0.refl _ | apply Drawn0.step)⟩
                            ·rw [if_neg c29] at H
                             have c29b0 : (a0 == 8491) = false := beq_eq_false_iff_ne.mpr c29
                             have c29b1 : (a0 != 8491) = true := bne_iff_ne.mpr c29
                             by_cases c30 : a0 = 8800
                             ·rw [if_pos c30] at H
                              have c30b0 : (a0 == 8800) = true := beq_iff_eq.mpr c30
                              have c30b1 : (a0 != 8800) = false := bne_eq_false_iff_eq.mpr c30
                              clear c30
                              simp only [Option.some.injEq, Prod.mk.injEq] at H
                              obtain ⟨rfl, rfl, rfl⟩ := H
                              go_enter Tryd.func86, Tryd.ntmps86
                              go_wp2
                              go_ret3
                              exact ⟨by first | rfl | (simp; done) | (simp [*]; done), by repeat (first | exact Drawn0.refl _ | apply Drawn0.step)⟩
                             ·rw [if_neg c30] at H
                              have c30b0 : (a0 == 8800) = false := beq_eq_false_iff_ne.mpr c30
                              have c30b1 : (a0 != 8800) = true := bne_iff_ne.mpr c30
                              by_cases c31 : a0 = 12364
                              ·rw [if_pos c31] at H
                               have c31b0 : (a0 == 12364) = true := beq_iff_eq.mpr c31
                               have c31b1 : (a0 != 12364) = false := bne_eq_false_iff_eq.mpr c31
                               clear c31
                               simp only [Option.some.injEq, Prod.mk.injEq] at H
                               obtain ⟨rfl, rfl, rfl⟩ := H
                               go_enter Tryd.func86, Tryd.ntmps86
                               go_wp2
                               go_ret3
                               exact ⟨by first | rfl | (simp; done) | (simp [*]; done), by repeat (first | exact Drawn0.refl _ | apply Drawn0.step)⟩
                              ·rw [if_neg c31] at H
                               have c31b0 : (a0 == 12364) = false := beq_eq_false_iff_ne.mpr c31
                               have c31b1 : (a0 != 12364) = true := bne_iff_ne.mpr c31
                               by_cases c32 : a0 = 12497
                               ·rw [if_pos c32] at H
                                have c32b0 : (a0 == 12497) = true := beq_iff_eq.mpr c32
                                have c32b1 : (a0 != 12497) = false := bne_eq_false_iff_eq.mpr c32
                                clear c32
                                simp only [Option.some.injEq, Prod.mk.injEq] at H
                                obtain ⟨rfl, rfl, rfl⟩ := H
                                go_enter Tryd.func86, Tryd.ntmps86
                                go_wp2
                                go_ret3
                                exact ⟨by first | rfl | (simp; done) | (simp [*]; done), by repeat (first | exact Drawn0.refl _ | apply Drawn0.step)⟩
                               ·rw [if_neg c32] at H
                                have c32b0 : (a0 == 12497) = false := beq_eq_false_iff_ne.mpr c32
                                have c32b1 : (a0 != 12497) = true := bne_iff_ne.mpr c32
                                simp only [Option.some.injEq, Prod.mk.injEq] at H
                                obtain ⟨rfl, rfl, rfl⟩ := H
                                go_enter Tryd.func86, Tryd.ntmps86
                                go_wp2
                                go_ret3
                                exact ⟨by first | rfl | (simp; done) | (simp [*]; done), by repeat (first | exact Drawn0.refl _ | apply Drawn0.step)⟩
end Go.Proofs.YtiggjbclbdikmaaDoor.X
namespace Go.Proofs.YtiggjbclbdikmaaDoor.Vi
set_option linter.unusedVariables false
set_option linter.unusedSimpArgs false
open Go.RowKit Go.Proofs.YtiggjbclbdikmaaDoorW.PrintWords Go.Proofs.YtiggjbclbdikmaaDoor.Hp Go.Proofs.YtiggjbclbdikmaaDoor.Va Go.Proofs.YtiggjbclbdikmaaDoor.Vc Go.Proofs.YtiggjbclbdikmaaDoor.Vd Go.Proofs.YtiggjbclbdikmaaDoor.X
def Spells (s : ByteArray) : Nat → List (Nat × Nat) → Bool
  | pos, [] => decide (¬ pos < s.size)
  | pos, (r, n) :: t => decide (pos < s.size) && (Utf8.decode s pos == (r, n)) && decide (0 < n) && Spells s (pos + n) t
theorem run_next_at {P : Program} (w : World) (s : ByteArray) (pos : Nat) (ty : TypeId) (h : pos < s.size) {r n : Nat} (hd : Utf8.decode s pos = (r, n)) :
    (Instr.next (.pointer (some ⟨w.heap.size, 0, none⟩)) true ty).run P (w.iter s pos) = .ok (.tuple #[.bool true, .int .i64 pos, .int .i32 r]) (w.iter s (pos + n)) := by
  simp only [Instr.next, getObj, setObj, Sem.run_bind, Sem.run, World.iter_heap, Result.andThen, h, if_true, hd, World.iter_set]
  simp [goInt, Sem.run, World.iter_heap, World.iter_set]
theorem it_below (w : World) (s : ByteArray) (pos : Nat) : Below w.heap.size w (w.iter s pos) := below_alloc (Below.refl _ _) _
theorem it_pos (w : World) (s : ByteArray) (pos : Nat) : (w.iter s pos).iterPos w.heap.size = pos := by simp [World.iterPos, World.iter_heap]
def nthF (at_ : Int) : Int → List (Nat × Nat) → Int
  | _, [] => 0
  | i, (r, _) :: t => if i = at_ then (r : Int) else nthF at_ (i + 1) t
def fndF (r : Int) : Int → Int → List (Nat × Nat) → Int
  | _, p, [] => p
  | i, p, (c, _) :: t => fndF r (i + 1) (if (c : Int) = r then i else p) t
set_option maxRecDepth 100000 in
set_option maxHeartbeats 1000000 in
theorem NthP (w : World) (s : ByteArray) (l : List (Nat × Nat)) (hs : Spells s 0 l = true) (hl : l.length ≤ 1000000) (a : Int) :
    Calls Tryd.prog 83 #[.string s, .int .i64 a] w fun e w' => e = .returned (.int .i32 (nthF a 0 l)) ∧ Below w.heap.size w w' := by
  have HS := Aside0.mk hs
  clear hs
  go_enter Tryd.func83, Tryd.ntmps83
  go_wp2
  go_loopw [5, 7] (fun iv rv wr => ∃ (i pos : Nat) (rest : List (Nat × Nat)), iv = .int .i64 i ∧ wr = w.iter s pos ∧ Aside0 (Spells s pos rest = true) ∧ Aside0 (nthF a 0 l = nthF a i rest) ∧ Aside0 (i + rest.length = l.length)) (fun _ _ wr => s.size - wr.iterPos w.heap.size)
  case atStart => exact ⟨0, 0, l, rfl, rfl, HS, ⟨rfl⟩, ⟨by omega⟩⟩
  case round =>
    obtain ⟨i, pos, rest, rfl, rfl, HR, HE, HL⟩ := hrel
    cases rest with
    | nil =>
      have hp := HR.out
      simp only [Spells, decide_eq_true_eq] at hp
      have hnx := fun ty => run_next_end (P := Tryd.prog) w s pos ty hp
      have HE1 := Aside0.mk (show nthF a 0 l = 0 from HE.out)
      have NB := Aside0.mk (it_below w s pos)
      clear hp HR HE
      go_wp2
      go_ret
      exact ⟨by rw [HE1.out]; rfl, NB.out⟩
    | cons p t =>
      obtain ⟨r, n⟩ := p
      have hp := HR.out
      simp only [Spells, Bool.and_eq_true, decide_eq_true_eq, beq_iff_eq] at hp
      obtain ⟨⟨⟨hp1, hp2⟩, hp3⟩, hp4⟩ := hp
      have hnx := fun ty => run_next_at (P := Tryd.prog) w s pos ty hp1 hp2
      have HP4 := Aside0.mk hp4
      have HP1 := Aside0.mk hp1
      have NB := Aside0.mk (it_below w s (pos + n))
      have MU := Aside0.mk (it_pos w s pos)
      have MU1 := Aside0.mk (it_pos w s (pos + n))
      have he := HE.out
      rw [nthF] at he
      have hll := HL.out
      rw [List.length_cons] at hll
      clear hp1 hp2 hp4 HR HE
      by_cases hi : (i : Int) = a
      · rw [if_pos hi] at he
        have HE1 := Aside0.mk he
        have hd : ((i : Int) == a) = true := beq_iff_eq.2 hi
        clear he hll hi
        go_wp2
        go_ret
        exact ⟨by rw [HE1.out]; rfl, NB.out⟩
      · rw [if_neg hi] at he
        have HE1 := Aside0.mk he
        have hd : ((i : Int) == a) = false := beq_eq_false_iff_ne.2 hi
        have HLL := Aside0.mk hll
        have hi5 : (i : Int) ≤ 1000000 := by omega
        clear he hll hi
        go_wp2
        go_roundw
        case rel => exact ⟨i + 1, pos + n, t, by go_num, rfl, HP4, ⟨by rw [HE1.out]; push_cast; rfl⟩, ⟨by have := HLL.out; omega⟩⟩
        case measure => rw [MU.out, MU1.out]; have := HP1.out; omega
def cmpL : List (Nat × Nat) := [(192, 2), (193, 2), (194, 2), (195, 2), (196, 2), (197, 2), (199, 2), (200, 2), (201, 2), (202, 2), (203, 2), (204, 2), (205, 2), (206, 2), (207, 2), (209, 2), (210, 2), (211, 2), (212, 2), (213, 2), (214, 2), (217, 2), (218, 2), (219, 2), (220, 2), (221, 2), (224, 2), (225, 2), (226, 2), (227, 2), (228, 2), (229, 2), (231, 2), (232, 2), (233, 2), (234, 2), (235, 2), (236, 2), (237, 2), (238, 2), (239, 2), (241, 2), (242, 2), (243, 2), (244, 2), (245, 2), (246, 2), (249, 2), (250, 2), (251, 2), (252, 2), (253, 2), (255, 2), (256, 2), (257, 2), (258, 2), (259, 2), (260, 2), (261, 2), (262, 2), (263, 2), (264, 2), (265, 2), (266, 2), (267, 2), (268, 2), (269, 2), (270, 2), (271, 2), (274, 2), (275, 2), (276, 2), (277, 2), (278, 2), (279, 2), (280, 2), (281, 2), (282, 2), (283, 2), (284, 2), (285, 2), (286, 2), (287, 2), (288, 2), (289, 2), (290, 2), (291, 2), (292, 2), (293, 2), (296, 2), (297, 2), (298, 2), (299, 2), (300, 2), (301, 2), (302, 2), (303, 2), (304, 2), (308, 2), (309, 2), (310, 2), (311, 2), (313, 2), (314, 2), (315, 2), (316, 2), (317, 2), (318, 2), (323, 2), (324, 2), (325, 2), (326, 2), (327, 2), (328, 2), (332, 2), (333, 2), (334, 2), (335, 2), (336, 2), (337, 2), (340, 2), (341, 2), (342, 2), (343, 2), (344, 2), (345, 2), (346, 2), (347, 2), (348, 2), (349, 2), (350, 2), (351, 2), (352, 2), (353, 2), (354, 2), (355, 2), (356, 2), (357, 2), (360, 2), (361, 2), (362, 2), (363, 2), (364, 2), (365, 2), (366, 2), (367, 2), (368, 2), (369, 2), (370, 2), (371, 2), (372, 2), (373, 2), (374, 2), (375, 2), (376, 2), (377, 2), (378, 2), (379, 2), (380, 2), (381, 2), (382, 2)]
def letL : List (Nat × Nat) := [(65, 1), (65, 1), (65, 1), (65, 1), (65, 1), (65, 1), (67, 1), (69, 1), (69, 1), (69, 1), (69, 1), (73, 1), (73, 1), (73, 1), (73, 1), (78, 1), (79, 1), (79, 1), (79, 1), (79, 1), (79, 1), (85, 1), (85, 1), (85, 1), (85, 1), (89, 1), (97, 1), (97, 1), (97, 1), (97, 1), (97, 1), (97, 1), (99, 1), (101, 1), (101, 1), (101, 1), (101, 1), (105, 1), (105, 1), (105, 1), (105, 1), (110, 1), (111, 1), (111, 1), (111, 1), (111, 1), (111, 1), (117, 1), (117, 1), (117, 1), (117, 1), (121, 1), (121, 1), (65, 1), (97, 1), (65, 1), (97, 1), (65, 1), (97, 1), (67, 1), (99, 1), (67, 1), (99, 1), (67, 1), (99, 1), (67, 1), (99, 1), (68, 1), (100, 1), (69, 1), (101, 1), (69, 1), (101, 1), (69, 1), (101, 1), (69, 1), (101, 1), (69, 1), (101, 1), (71, 1), (103, 1), (71, 1), (103, 1), (71, 1), (103, 1), (71, 1), (103, 1), (72, 1), (104, 1), (73, 1), (105, 1), (73, 1), (105, 1), (73, 1), (105, 1), (73, 1), (105, 1), (73, 1), (74, 1), (106, 1), (75, 1), (107, 1), (76, 1), (108, 1), (76, 1), (108, 1), (76, 1), (108, 1), (78, 1), (110, 1), (78, 1), (110, 1), (78, 1), (110, 1), (79, 1), (111, 1), (79, 1), (111, 1), (79, 1), (111, 1), (82, 1), (114, 1), (82, 1), (114, 1), (82, 1), (114, 1), (83, 1), (115, 1), (83, 1), (115, 1), (83, 1), (115, 1), (83, 1), (115, 1), (84, 1), (116, 1), (84, 1), (116, 1), (85, 1), (117, 1), (85, 1), (117, 1), (85, 1), (117, 1), (85, 1), (117, 1), (85, 1), (117, 1), (85, 1), (117, 1), (87, 1), (119, 1), (89, 1), (121, 1), (89, 1), (90, 1), (122, 1), (90, 1), (122, 1), (90, 1), (122, 1)]
def mrkL : List (Nat × Nat) := [(768, 2), (769, 2), (770, 2), (771, 2), (776, 2), (778, 2), (807, 2), (768, 2), (769, 2), (770, 2), (776, 2), (768, 2), (769, 2), (770, 2), (776, 2), (771, 2), (768, 2), (769, 2), (770, 2), (771, 2), (776, 2), (768, 2), (769, 2), (770, 2), (776, 2), (769, 2), (768, 2), (769, 2), (770, 2), (771, 2), (776, 2), (778, 2), (807, 2), (768, 2), (769, 2), (770, 2), (776, 2), (768, 2), (769, 2), (770, 2), (776, 2), (771, 2), (768, 2), (769, 2), (770, 2), (771, 2), (776, 2), (768, 2), (769, 2), (770, 2), (776, 2), (769, 2), (776, 2), (772, 2), (772, 2), (774, 2), (774, 2), (808, 2), (808, 2), (769, 2), (769, 2), (770, 2), (770, 2), (775, 2), (775, 2), (780, 2), (780, 2), (780, 2), (780, 2), (772, 2), (772, 2), (774, 2), (774, 2), (775, 2), (775, 2), (808, 2), (808, 2), (780, 2), (780, 2), (770, 2), (770, 2), (774, 2), (774, 2), (775, 2), (775, 2), (807, 2), (807, 2), (770, 2), (770, 2), (771, 2), (771, 2), (772, 2), (772, 2), (774, 2), (774, 2), (808, 2), (808, 2), (775, 2), (770, 2), (770, 2), (807, 2), (807, 2), (769, 2), (769, 2), (807, 2), (807, 2), (780, 2), (780, 2), (769, 2), (769, 2), (807, 2), (807, 2), (780, 2), (780, 2), (772, 2), (772, 2), (774, 2), (774, 2), (779, 2), (779, 2), (769, 2), (769, 2), (807, 2), (807, 2), (780, 2), (780, 2), (769, 2), (769, 2), (770, 2), (770, 2), (807, 2), (807, 2), (780, 2), (780, 2), (807, 2), (807, 2), (780, 2), (780, 2), (771, 2), (771, 2), (772, 2), (772, 2), (774, 2), (774, 2), (778, 2), (778, 2), (779, 2), (779, 2), (808, 2), (808, 2), (770, 2), (770, 2), (770, 2), (770, 2), (776, 2), (769, 2), (769, 2), (775, 2), (775, 2), (780, 2), (780, 2)]
abbrev cmpS : ByteArray := ⟨#[195, 128, 195, 129, 195, 130, 195, 131, 195, 132, 195, 133, 195, 135, 195, 136, 195, 137, 195, 138, 195, 139, 195, 140, 195, 141, 195, 142, 195, 143, 195, 145, 195, 146, 195, 147, 195, 148, 195, 149, 195, 150, 195, 153, 195, 154, 195, 155, 195, 156, 195, 157, 195, 160, 195, 161, 195, 162, 195, 163, 195, 164, 195, 165, 195, 167, 195, 168, 195, 169, 195, 170, 195, 171, 195, 172, 195, 173, 195, 174, 195, 175, 195, 177, 195, 178, 195, 179, 195, 180, 195, 181, 195, 182, 195, 185, 195, 186, 195, 187, 195, 188, 195, 189, 195, 191, 196, 128, 196, 129, 196, 130, 196, 131, 196, 132, 196, 133, 196, 134, 196, 135, 196, 136, 196, 137, 196, 138, 196, 139, 196, 140, 196, 141, 196, 142, 196, 143, 196, 146, 196, 147, 196, 148, 196, 149, 196, 150, 196, 151, 196, 152, 196, 153, 196, 154, 196, 155, 196, 156, 196, 157, 196, 158, 196, 159, 196, 160, 196, 161, 196, 162, 196, 163, 196, 164, 196, 165, 196, 168, 196, 169, 196, 170, 196, 171, 196, 172, 196, 173, 196, 174, 196, 175, 196, 176, 196, 180, 196, 181, 196, 182, 196, 183, 196, 185, 196, 186, 196, 187, 196, 188, 196, 189, 196, 190, 197, 131, 197, 132, 197, 133, 197, 134, 197, 135, 197, 136, 197, 140, 197, 141, 197, 142, 197, 143, 197, 144, 197, 145, 197, 148, 197, 149, 197, 150, 197, 151, 197, 152, 197, 153, 197, 154, 197, 155, 197, 156, 197, 157, 197, 158, 197, 159, 197, 160, 197, 161, 197, 162, 197, 163, 197, 164, 197, 165, 197, 168, 197, 169, 197, 170, 197, 171, 197, 172, 197, 173, 197, 174, 197, 175, 197, 176, 197, 177, 197, 178, 197, 179, 197, 180, 197, 181, 197, 182, 197, 183, 197, 184, 197, 185, 197, 186, 197, 187, 197, 188, 197, 189, 197, 190]⟩
abbrev letS : ByteArray := ⟨#[65, 65, 65, 65, 65, 65, 67, 69, 69, 69, 69, 73, 73, 73, 73, 78, 79, 79, 79, 79, 79, 85, 85, 85, 85, 89, 97, 97, 97, 97, 97, 97, 99, 101, 101, 101, 101, 105, 105, 105, 105, 110, 111, 111, 111, 111, 111, 117, 117, 117, 117, 121, 121, 65, 97, 65, 97, 65, 97, 67, 99, 67, 99, 67, 99, 67, 99, 68, 100, 69, 101, 69, 101, 69, 101, 69, 101, 69, 101, 71, 103, 71, 103, 71, 103, 71, 103, 72, 104, 73, 105, 73, 105, 73, 105, 73, 105, 73, 74, 106, 75, 107, 76, 108, 76, 108, 76, 108, 78, 110, 78, 110, 78, 110, 79, 111, 79, 111, 79, 111, 82, 114, 82, 114, 82, 114, 83, 115, 83, 115, 83, 115, 83, 115, 84, 116, 84, 116, 85, 117, 85, 117, 85, 117, 85, 117, 85, 117, 85, 117, 87, 119, 89, 121, 89, 90, 122, 90, 122, 90, 122]⟩
abbrev mrkS : ByteArray := ⟨#[204, 128, 204, 129, 204, 130, 204, 131, 204, 136, 204, 138, 204, 167, 204, 128, 204, 129, 204, 130, 204, 136, 204, 128, 204, 129, 204, 130, 204, 136, 204, 131, 204, 128, 204, 129, 204, 130, 204, 131, 204, 136, 204, 128, 204, 129, 204, 130, 204, 136, 204, 129, 204, 128, 204, 129, 204, 130, 204, 131, 204, 136, 204, 138, 204, 167, 204, 128, 204, 129, 204, 130, 204, 136, 204, 128, 204, 129, 204, 130, 204, 136, 204, 131, 204, 128, 204, 129, 204, 130, 204, 131, 204, 136, 204, 128, 204, 129, 204, 130, 204, 136, 204, 129, 204, 136, 204, 132, 204, 132, 204, 134, 204, 134, 204, 168, 204, 168, 204, 129, 204, 129, 204, 130, 204, 130, 204, 135, 204, 135, 204, 140, 204, 140, 204, 140, 204, 140, 204, 132, 204, 132, 204, 134, 204, 134, 204, 135, 204, 135, 204, 168, 204, 168, 204, 140, 204, 140, 204, 130, 204, 130, 204, 134, 204, 134, 204, 135, 204, 135, 204, 167, 204, 167, 204, 130, 204, 130, 204, 131, 204, 131, 204, 132, 204, 132, 204, 134, 204, 134, 204, 168, 204, 168, 204, 135, 204, 130, 204, 130, 204, 167, 204, 167, 204, 129, 204, 129, 204, 167, 204, 167, 204, 140, 204, 140, 204, 129, 204, 129, 204, 167, 204, 167, 204, 140, 204, 140, 204, 132, 204, 132, 204, 134, 204, 134, 204, 139, 204, 139, 204, 129, 204, 129, 204, 167, 204, 167, 204, 140, 204, 140, 204, 129, 204, 129, 204, 130, 204, 130, 204, 167, 204, 167, 204, 140, 204, 140, 204, 167, 204, 167, 204, 140, 204, 140, 204, 131, 204, 131, 204, 132, 204, 132, 204, 134, 204, 134, 204, 138, 204, 138, 204, 139, 204, 139, 204, 168, 204, 168, 204, 130, 204, 130, 204, 130, 204, 130, 204, 136, 204, 129, 204, 129, 204, 135, 204, 135, 204, 140, 204, 140]⟩
theorem cmp_spells : Spells cmpS 0 cmpL = true := by decide +kernel
theorem let_spells : Spells letS 0 letL = true := by decide +kernel
theorem mrk_spells : Spells mrkS 0 mrkL = true := by decide +kernel
set_option maxRecDepth 100000 in
theorem CmpP (w : World) : Calls Tryd.prog 82 #[] w fun e w' => e = .returned (.string cmpS) ∧ w = w' := by
  go_enter Tryd.func82, Tryd.ntmps82
  go_wp2
  go_ret
  exact ⟨rfl, rfl⟩
set_option maxRecDepth 100000 in
theorem LetP (w : World) : Calls Tryd.prog 84 #[] w fun e w' => e = .returned (.string letS) ∧ w = w' := by
  go_enter Tryd.func84, Tryd.ntmps84
  go_wp2
  go_ret
  exact ⟨rfl, rfl⟩
set_option maxRecDepth 100000 in
theorem MrkP (w : World) : Calls Tryd.prog 85 #[] w fun e w' => e = .returned (.string mrkS) ∧ w = w' := by
  go_enter Tryd.func85, Tryd.ntmps85
  go_wp2
  go_ret
  exact ⟨rfl, rfl⟩
def fewU (r : Int) : Int × Int × Int := (tremaref02_few.f r).getD (0, 0, 0)
theorem ite_ex {c : Prop} [Decidable c] {α : Type} {a b : Option α} (h1 : ∃ x, a = some x) (h2 : ∃ x, b = some x) : ∃ x, (if c then a else b) = some x := by
  by_cases h : c
  · rw [if_pos h]; exact h1
  · rw [if_neg h]; exact h2
theorem few_ex (r : Int) : ∃ x, tremaref02_few.f r = some x := by
  unfold tremaref02_few.f
  repeat' (first | exact ⟨_, rfl⟩ | refine ite_ex ?_ ?_)
theorem few_some (r : Int) : tremaref02_few.f r = some (fewU r) := by
  obtain ⟨x, h⟩ := few_ex r
  unfold fewU
  rw [h]
  rfl
def refU (r : Int) : Int × Int × Int := if 0 ≤ fndF r 0 (-1) cmpL then (nthF (fndF r 0 (-1) cmpL) 0 letL, nthF (fndF r 0 (-1) cmpL) 0 mrkL, 2) else fewU r
theorem in_eq (r lo hi : Int) : tremaref02_in.f r lo hi = some (decide (lo ≤ r ∧ r ≤ hi)) := by
  unfold tremaref02_in.f
  by_cases c : lo ≤ r
  · rw [if_pos c]; congr 1; rw [decide_eq_decide]; omega
  · rw [if_neg c]; congr 1; symm; rw [decide_eq_false_iff_not]; omega
theorem InP (w : World) (r lo hi : Int) (b : Bool) (hb : decide (lo ≤ r ∧ r ≤ hi) = b) : Calls Tryd.prog 60 #[.int .i32 r, .int .i32 lo, .int .i32 hi] w fun e w' => e = .returned (.bool b) ∧ Below w.heap.size w w' := by
  subst hb
  exact (tremaref02_in.calls r lo hi _ w (in_eq r lo hi)).mono fun _ _ h => ⟨h.1, h.2.below⟩
theorem FewP (w : World) (r a b c : Int) (h : fewU r = (a, b, c)) : Calls Tryd.prog 86 #[.int .i32 r] w fun e w' => e = .returned (.tuple #[.int .i32 a, .int .i32 b, .int .i64 c]) ∧ Below w.heap.size w w' :=
  (tremaref02_few.calls r a b c w (by rw [few_some, h])).mono fun _ _ h => ⟨h.1, h.2.below⟩
set_option maxRecDepth 100000 in
set_option maxHeartbeats 1000000 in
theorem RefSyl (w : World) (s : Nat) (hs : s ≤ 11171) : Calls Tryd.prog 64 #[.int .i32 (44032 + (s : Int))] w fun e w' => e = .returned (.tuple #[.int .i32 (pairU (44032 + (s : Int))).1, .int .i32 (pairU (44032 + (s : Int))).2.1, .int .i64 (pairU (44032 + (s : Int))).2.2]) ∧ Below w.heap.size w w' := by
  have HI := Aside0.mk (InP w (44032 + (s : Int)) 44032 55203 true (decide_eq_true (by omega)))
  have t1 : (s : Int).tdiv 588 = ((s / 588 : Nat) : Int) := by rw [Int.tdiv_eq_ediv_of_nonneg (by omega)]; omega
  have t2 : (s : Int).tdiv 28 = ((s / 28 : Nat) : Int) := by rw [Int.tdiv_eq_ediv_of_nonneg (by omega)]; omega
  have t3 : ((s / 28 : Nat) : Int).tmod 21 = ((s / 28 % 21 : Nat) : Int) := by rw [Int.tmod_eq_emod_of_nonneg (by omega)]; omega
  have t4 : (s : Int).tmod 28 = ((s % 28 : Nat) : Int) := by rw [Int.tmod_eq_emod_of_nonneg (by omega)]; omega
  have e1 : 44032 + (s : Int) - 44032 = (s : Int) := by omega
  have hP := syl_pair s hs
  have b1 : s / 588 ≤ 18 := by omega
  have b2 : s / 28 % 21 ≤ 20 := by omega
  have b3 : s % 28 ≤ 27 := by omega
  have q1 : s % 588 / 28 = s / 28 % 21 := by omega
  have q2 : 44032 + (s : Int) - ((s % 28 : Nat) : Int) = 44032 + (((s / 588 : Nat) : Int) * 21 + ((s / 28 % 21 : Nat) : Int)) * 28 := by omega
  have q3 : s / 28 ≤ 1000 := by omega
  rw [q1, q2] at hP
  obtain ⟨x1, hx1⟩ : ∃ x, x = s % 28 := ⟨_, rfl⟩
  obtain ⟨x2, hx2⟩ : ∃ x, x = s / 28 % 21 := ⟨_, rfl⟩
  obtain ⟨x3, hx3⟩ : ∃ x, x = s / 588 := ⟨_, rfl⟩
  obtain ⟨x4, hx4⟩ : ∃ x, x = s / 28 := ⟨_, rfl⟩
  rw [← hx1] at t4 b3 hP
  rw [← hx2] at t3 b2 hP
  rw [← hx3] at t1 b1 hP
  rw [← hx4] at t2 t3 q3
  have HP := Aside0.mk hP
  clear hP hx1 hx2 hx3 hx4 q1 q2
  by_cases h : x1 = 0
  · subst h
    go_enter Tryd.func64, Tryd.ntmps64
    go_wp2_with (first | (go_at_call 60; go_must (refine HI.out.mono ?_; rintro e w1 ⟨rfl, p1⟩; have B1 := Aside0.mk p1; clear p1)))
    go_ret3
    exact ⟨by rw [HP.out]; rfl, B1.out⟩
  · have h0 : ((x1 : Int) == 0) = false := by simp; omega
    go_enter Tryd.func64, Tryd.ntmps64
    go_wp2_with (first | (go_at_call 60; go_must (refine HI.out.mono ?_; rintro e w1 ⟨rfl, p1⟩; have B1 := Aside0.mk p1; clear p1)))
    go_ret3
    exact ⟨by rw [HP.out, if_neg h]; rfl, B1.out⟩
set_option maxRecDepth 100000 in
set_option maxHeartbeats 1000000 in
theorem RefTab (w : World) (r : Int) (hr : -2147483648 ≤ r ∧ r ≤ 2147483647) (h : ¬ (44032 ≤ r ∧ r ≤ 55203)) : Calls Tryd.prog 64 #[.int .i32 r] w fun e w' => e = .returned (.tuple #[.int .i32 (refU r).1, .int .i32 (refU r).2.1, .int .i64 (refU r).2.2]) ∧ Below w.heap.size w w' := by
  have HI := Aside0.mk (InP w r 44032 55203 false (decide_eq_false h))
  have HU := Aside0.mk (show refU r = if 0 ≤ fndF r 0 (-1) cmpL then (nthF (fndF r 0 (-1) cmpL) 0 letL, nthF (fndF r 0 (-1) cmpL) 0 mrkL, 2) else fewU r from rfl)
  have HC := Aside0.mk cmp_spells
  have HLn := Aside0.mk (show cmpL.length ≤ 1000 by decide)
  have HCm := Aside0.mk CmpP
  have HLe := Aside0.mk LetP
  have HMr := Aside0.mk MrkP
  have HNl := Aside0.mk (fun W a => NthP W letS letL let_spells (by decide) a)
  have HNm := Aside0.mk (fun W a => NthP W mrkS mrkL mrk_spells (by decide) a)
  obtain ⟨cs, hcs⟩ : ∃ x, x = cmpS := ⟨_, rfl⟩
  obtain ⟨ls, hls⟩ : ∃ x, x = letS := ⟨_, rfl⟩
  obtain ⟨ms, hms⟩ : ∃ x, x = mrkS := ⟨_, rfl⟩
  obtain ⟨cl, hcl⟩ : ∃ x, x = cmpL := ⟨_, rfl⟩
  rw [← hcs] at HC HCm
  rw [← hls] at HLe HNl
  rw [← hms] at HMr HNm
  rw [← hcl] at HC HU HLn
  clear hcs hls hms hcl h
  go_enter Tryd.func64, Tryd.ntmps64
  go_wp2_with (first | (go_at_call 60; go_must (refine HI.out.mono ?_; rintro e w1 ⟨rfl, p1⟩; have B1 := Aside0.mk p1; clear p1)) | (go_at_call 82; go_must (refine (HCm.out _).mono ?_; rintro e w2 ⟨rfl, rfl⟩)))
  go_loopw [9, 10, 12] (fun av iv rv wr => ∃ (p : Int) (i pos : Nat) (rest : List (Nat × Nat)), -1 ≤ p ∧ p ≤ 1000 ∧ av = .int .i64 p ∧ iv = .int .i64 i ∧ wr = w1.iter cs pos ∧ Aside0 (Spells cs pos rest = true) ∧ Aside0 (fndF r 0 (-1) cl = fndF r i p rest) ∧ Aside0 (i + rest.length = cl.length)) (fun _ _ _ wr => cs.size - wr.iterPos w1.heap.size)
  case atStart => exact ⟨-1, 0, 0, cl, by decide, by decide, rfl, rfl, rfl, HC, ⟨rfl⟩, ⟨by omega⟩⟩
  case round =>
    obtain ⟨p, i, pos, rest, hp0, hp9, rfl, rfl, rfl, HR, HE, HL⟩ := hrel
    cases rest with
    | nil =>
      have hp := HR.out
      simp only [Spells, decide_eq_true_eq] at hp
      have hnx := fun ty => run_next_end (P := Tryd.prog) w1 cs pos ty hp
      have he := HE.out
      rw [fndF] at he
      have hu := HU.out
      rw [he] at hu
      have NB := Aside0.mk (below_then B1.out B1.out.size (it_below w1 cs pos))
      clear hp HR HE he
      by_cases h0 : 0 ≤ p
      · rw [if_pos h0] at hu
        have HU1 := Aside0.mk hu
        have hd : decide (0 ≤ p) = true := decide_eq_true h0
        clear hu h0
        go_wp2_with (first | (go_at_call 84; go_must (refine (HLe.out _).mono ?_; rintro e w2 ⟨rfl, rfl⟩)) | (go_at_call 85; go_must (refine (HMr.out _).mono ?_; rintro e w2 ⟨rfl, rfl⟩)) | (go_at_call 83; (with_reducible refine (HNl.out _ p).mono ?_); rintro e w3 ⟨rfl, p3⟩; have B3 := Aside0.mk (below_then NB.out NB.out.size p3); clear p3 HNl) | (go_at_call 83; (with_reducible refine (HNm.out _ p).mono ?_); rintro e w4 ⟨rfl, p3⟩; have B4 := Aside0.mk (below_then B3.out B3.out.size p3); clear p3))
        go_ret3
        exact ⟨by rw [HU1.out]; rfl, B4.out⟩
      · rw [if_neg h0] at hu
        obtain ⟨⟨a, b, c⟩, hf⟩ : ∃ x, x = fewU r := ⟨_, rfl⟩
        rw [← hf] at hu
        have HU1 := Aside0.mk hu
        have HF := Aside0.mk (fun W => FewP W r a b c hf.symm)
        have hd : decide (0 ≤ p) = false := decide_eq_false h0
        clear hu h0 hf
        go_wp2_with (first | (go_at_call 86; go_must (refine (HF.out _).mono ?_; rintro e w3 ⟨rfl, p3⟩; have B3 := Aside0.mk (below_then NB.out NB.out.size p3); clear p3)))
        go_ret3
        exact ⟨by rw [HU1.out]; rfl, B3.out⟩
    | cons q t =>
      obtain ⟨c, n⟩ := q
      have hp := HR.out
      simp only [Spells, Bool.and_eq_true, decide_eq_true_eq, beq_iff_eq] at hp
      obtain ⟨⟨⟨hp1, hp2⟩, hp3⟩, hp4⟩ := hp
      have hnx := fun ty => run_next_at (P := Tryd.prog) w1 cs pos ty hp1 hp2
      have HP4 := Aside0.mk hp4
      have HP1 := Aside0.mk hp1
      have NB := Aside0.mk (it_below w1 cs (pos + n))
      have MU := Aside0.mk (it_pos w1 cs pos)
      have MU1 := Aside0.mk (it_pos w1 cs (pos + n))
      have he := HE.out
      rw [fndF] at he
      have hll := HL.out
      rw [List.length_cons] at hll
      have hln := HLn.out
      have hi5 : (i : Int) ≤ 1000 := by omega
      clear hp1 hp2 hp4 HR HE hln
      by_cases hc : (c : Int) = r
      · rw [if_pos hc] at he
        have HE1 := Aside0.mk he
        have hd : ((c : Int) == r) = true := beq_iff_eq.2 hc
        have HLL := Aside0.mk hll
        clear he hll hc
        go_wp2
        go_roundw
        case rel => exact ⟨i, i + 1, pos + n, t, by omega, by omega, rfl, by go_num, rfl, HP4, ⟨by rw [HE1.out]; push_cast; rfl⟩, ⟨by have := HLL.out; omega⟩⟩
        case measure => rw [MU.out, MU1.out]; have := HP1.out; omega
      · rw [if_neg hc] at he
        have HE1 := Aside0.mk he
        have hd : ((c : Int) == r) = false := beq_eq_false_iff_ne.2 hc
        have HLL := Aside0.mk hll
        clear he hll hc
        go_wp2
        go_roundw
        case rel => exact ⟨p, i + 1, pos + n, t, by omega, by omega, rfl, by go_num, rfl, HP4, ⟨by rw [HE1.out]; push_cast; rfl⟩, ⟨by have := HLL.out; omega⟩⟩
        case measure => rw [MU.out, MU1.out]; have := HP1.out; omega
theorem ref_keys : ∀ r ∈ keys, refU r = pairU r := by decide +kernel
theorem cmp_keys : ∀ p ∈ cmpL, (p.1 : Int) ∈ keys := by decide +kernel
theorem few_keys : ∀ k ∈ prsT.map (·.1), k ∈ keys := fun k hk => List.mem_append_right _ hk
theorem fnd_none (r : Int) : ∀ (l : List (Nat × Nat)) (i p : Int), (∀ q ∈ l, (q.1 : Int) ≠ r) → fndF r i p l = p
  | [], _, _, _ => rfl
  | (c, n) :: t, i, p, h => by
    rw [fndF, if_neg (h (c, n) (List.mem_cons_self ..)), fnd_none r t _ _ (fun q hq => h q (List.mem_cons_of_mem _ hq))]
theorem few_none (r : Int) (h : r ∉ prsT.map (·.1)) : fewU r = (0, 0, 0) := by
  have e : ∀ k : Int, k ∈ prsT.map (·.1) → (r = k) = False := fun k hk => by simp; intro e; exact h (e ▸ hk)
  unfold fewU tremaref02_few.f
  simp [prsT] at h
  simp [h]
theorem ref_pair (r : Int) (h : ¬ (44032 ≤ r ∧ r ≤ 55203)) : refU r = pairU r := by
  by_cases hk : r ∈ keys
  · exact ref_keys r hk
  · rw [pair_zero r h hk]
    have h1 : fndF r 0 (-1) cmpL = -1 := fnd_none r _ _ _ (fun q hq e => hk (e ▸ cmp_keys q hq))
    unfold refU
    rw [h1, if_neg (by decide)]
    exact few_none r (fun hm => hk (few_keys r hm))
theorem RefPairP (w : World) (r : Int) (hr : -2147483648 ≤ r ∧ r ≤ 2147483647) : Calls Tryd.prog 64 #[.int .i32 r] w fun e w' => e = .returned (.tuple #[.int .i32 (pairU r).1, .int .i32 (pairU r).2.1, .int .i64 (pairU r).2.2]) ∧ Below w.heap.size w w' := by
  by_cases h : 44032 ≤ r ∧ r ≤ 55203
  · have := RefSyl w (r - 44032).toNat (by omega)
    rw [show 44032 + ((r - 44032).toNat : Int) = r by omega] at this
    exact this
  · have := RefTab w r hr h
    rw [ref_pair r h] at this
    exact this
end Go.Proofs.YtiggjbclbdikmaaDoor.Vi
namespace Go.Proofs.YtiggjbclbdikmaaDoor.X
open Go.RowKit Go.Proofs.YtiggjbclbdikmaaDoorW.PrintWords
def tremaref02_Pair.f (a0 : Int) : Option (Int × Int × Int) := if -2147483648 ≤ a0 ∧ a0 ≤ 2147483647 then some (Vc.pairU a0) else none
theorem tremaref02_Pair.calls (a0 : Int) (r1 r2 r3 : Int) (w : World) (h : tremaref02_Pair.f a0 = some (r1, r2, r3)) : Calls Tryd.prog 64 #[.int .i32 a0] w fun e w' => e = .returned (.tuple #[.int .i32 r1, .int .i32 r2, .int .i64 r3]) ∧ Below w.heap.size w w' := by
  unfold tremaref02_Pair.f at h
  split at h
  · rename_i hr
    have e := Option.some.inj h
    have := Vi.RefPairP w a0 hr
    rw [e] at this
    exact this
  · cases h
end Go.Proofs.YtiggjbclbdikmaaDoor.X
