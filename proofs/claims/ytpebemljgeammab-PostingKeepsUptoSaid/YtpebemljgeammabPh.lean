/-
  PostingWidths.
-/
import Derived.Test.YtpebemljgeammabPg
namespace Go.Proofs.Ytpebemljgeammab.Ph
set_option linter.unusedVariables false
set_option linter.unusedSimpArgs false
open Go.RowKit Go.Proofs.YtpebemljgeammabW.PrintWords Go.Proofs.Ytpebemljgeammab.Hp Go.Proofs.Ytpebemljgeammab.Fm Go.Proofs.Ytpebemljgeammab.Pn Go.Proofs.Ytpebemljgeammab.Pm Go.Proofs.Ytpebemljgeammab.Pw Go.Proofs.Ytpebemljgeammab.Pe Go.Proofs.Ytpebemljgeammab.Pd Go.Proofs.Ytpebemljgeammab.Pf Go.Proofs.Ytpebemljgeammab.PPostingKeeps

theorem wf_u64 {n : Int} (h : (Lit.int .u64 n).wf = true) : ∃ N : Nat, n = N ∧ N < 18446744073709551616 := by
  simp [Lit.wf, IntKind.min, IntKind.max, IntKind.signed, IntKind.bits] at h
  exact ⟨n.toNat, by omega, by omega⟩
theorem wf_byt {xs : List Int} (h : ∀ x, x ∈ xs → (Lit.int .u8 x).wf = true) : Byt xs := fun x hx => by
  have := h x hx
  simp [Lit.wf, IntKind.min, IntKind.max, IntKind.signed, IntKind.bits] at this
  omega
def more (m : Nat) : Nat := if m = 0 then 0 else (num m).length
theorem num_more (n : Nat) : (num n).length = 1 + more (n / 128) := by
  unfold more
  rcases Nat.lt_or_ge n 128 with h | h
  · rw [num_small h, if_pos (by omega)]; rfl
  · rw [num_big h, if_neg (by omega)]; simp only [List.length_cons]; omega
theorem num_mark (n : Nat) (i : Nat) (h : i < (num n).length) : (128 ≤ rd (num n) i) ↔ i < (num n).length - 1 := by
  obtain ⟨l, x, h1, h2, h3, h4⟩ := num_shape n
  rw [h1] at h ⊢
  simp at h ⊢
  unfold rd
  rw [Int.toNat_natCast]
  rcases Nat.lt_or_ge i l.length with h5 | h5
  · have e : (l ++ [x]).getD i 0 = l[i] := by simp [List.getElem?_append_left h5, List.getElem?_eq_getElem h5]
    rw [e]
    have := h2 _ (List.getElem_mem h5)
    omega
  · have e : (l ++ [x]).getD i 0 = x := by
      obtain rfl : i = l.length := by omega
      simp
    rw [e]
    omega

set_option maxRecDepth 100000 in
set_option maxHeartbeats 2000000 in
theorem walk (w : World) (n0 : Int) (hw : (Lit.int .u64 n0).wf = true) :
    Calls Try.prog 7 #[.int .u64 n0] w fun e w' => e = .returned (.bool true) ∧ Below w.heap.size w w' := by
  obtain ⟨N, rfl, hN⟩ := wf_u64 hw
  clear hw
  obtain ⟨q, hq⟩ : ∃ q, q = (num N).length := ⟨_, rfl⟩
  have hq10 : q ≤ 10 := by rw [hq]; exact num_len10 hN
  have hq1 : 1 ≤ q := by rw [hq]; exact num_pos N
  have HQ := Aside0.mk hq
  clear hq
  go_enter Try.func7, Try.ntmps7
  go_wp2_with (first | (go_at_call 8; go_must (refine (Pg.fixed w).mono ?_; rintro e w1 ⟨rfl, p1⟩; have B1 := Aside0.mk p1; clear p1)))
  go_loopw [3, 4] (fun wv mv wr => ∃ m wd : Nat, mv = .int .u64 m ∧ m < 18446744073709551616 ∧ wv = .int .i64 wd ∧ wd ≤ 10 ∧ Aside0 (q = wd + more m) ∧ wr = w1) (fun _ mv _ => (intOf mv).toNat)
  case atStart => exact ⟨N / 128, 1, by go_num, by omega, rfl, by omega, ⟨by rw [HQ.out]; exact num_more N⟩, rfl⟩
  case round =>
    obtain ⟨m, wd, rfl, hm, rfl, hwd, HE, rfl⟩ := hrel
    rcases Nat.eq_zero_or_pos m with rfl | hm0
    · have hwq : wd = q := by have := HE.out; unfold more at this; simpa using this.symm
      subst hwq
      have HL := Aside0.mk (show ([] : List Int).length + (num N).length ≤ 140737488355328 by rw [← HQ.out]; simp; omega)
      go_wp2_with (first | (go_at_call 14; go_must (refine (NumberP wr none 0 0 [] (Kd.C_nil _ _) rfl (Nat.le_refl _) N hN HL.out).mono ?_; rintro e w2 ⟨v2, rfl, p1⟩; obtain ⟨A2, c2, rfl, hc2, hC2⟩ := p1.reads 0 rfl; rw [List.nil_append, ← HQ.out] at hc2 hC2 ⊢; have B2 := Aside0.mk (below_then B1.out B1.out.size p1.below); have C2 := Aside0.mk hC2; clear p1 hC2)))
      go_loopw [25] (fun iv wr => ∃ i : Nat, i ≤ wd ∧ iv = .int .i64 i ∧ wr = w2) (fun iv _ => wd - (intOf iv).toNat)
      case atStart => exact ⟨0, Nat.zero_le _, rfl, rfl⟩
      case round =>
        obtain ⟨i, hi, rfl, rfl⟩ := hrel
        by_cases hlt : i < wd
        · have hd : decide ((i : Int) < (wd : Int)) = true := decide_eq_true (by omega)
          obtain ⟨ad, rfl, x0⟩ := Pe.intC C2.out i hlt
          have hmk := num_mark N i (by rw [← HQ.out]; exact hlt)
          rw [← HQ.out] at hmk
          obtain ⟨x, hx⟩ : ∃ x, x = rd (num N) i := ⟨_, rfl⟩
          rw [← hx] at x0 hmk
          clear hx
          by_cases hge : 128 ≤ x
          · have h1 : decide ((128 : Int) ≤ x) = true := decide_eq_true hge
            have h2 : decide ((i : Int) < (wd : Int) - 1) = true := decide_eq_true (by have := hmk.1 hge; omega)
            clear hmk
            go_wp2
            go_roundw
            case rel => exact ⟨i + 1, by omega, by go_num, trivial⟩
            case measure => simp [intOf]; omega
          · have h1 : decide ((128 : Int) ≤ x) = false := decide_eq_false hge
            have h2 : decide ((i : Int) < (wd : Int) - 1) = false := decide_eq_false (fun h => hge (hmk.2 (by omega)))
            clear hmk
            go_wp2
            go_roundw
            case rel => exact ⟨i + 1, by omega, by go_num, trivial⟩
            case measure => simp [intOf]; omega
        · have hd : decide ((i : Int) < (wd : Int)) = false := decide_eq_false (by omega)
          go_wp2
          go_loopw [41] (fun iv wr2 => ∃ i : Nat, i ≤ wd ∧ iv = .int .i64 i ∧ Aside0 (Below wr.heap.size wr wr2)) (fun iv _ => wd - (intOf iv).toNat)
          case atStart => exact ⟨0, Nat.zero_le _, rfl, ⟨Below.refl _ _⟩⟩
          case round =>
            obtain ⟨j, hj, rfl, HB⟩ := hrel
            by_cases hlt : j < wd
            · have hd : decide ((j : Int) < (wd : Int)) = true := decide_eq_true (by omega)
              obtain ⟨i8, hi8, hz8⟩ := Option.map_eq_some_iff.1 info_8
              have hcut : ∀ W : World, (Instr.slice 22 (.slice A2 wd c2) none (some (.int .i64 (j : Int))) none).run Try.prog W = .ok (.slice A2 j c2) W := by
                intro W
                have := cut_to (P := Try.prog) 22 5 .i64 Try.underlying22 hi8 A2 wd c2 (j : Int) (by omega) (by omega) hc2 W
                simpa using this
              clear hi8 hz8
              have C3 := Aside0.mk (rdC ((rdint (Kd.C_below C2.out HB.out)).take_ j (by omega)))
              have HJ := Aside0.mk (show j = ((num N).take j).length by rw [List.length_take, ← HQ.out]; omega)
              have HP := Aside0.mk (show rd1 ((num N).take j) = (0, 0) from rd1_part N j (by rw [← HQ.out]; exact hlt))
              have HBT := Aside0.mk (show Byt ((num N).take j) from fun x hx => num_byt N x (List.mem_of_mem_take hx))
              go_wp2_with (first | (go_at_call 15; go_must (refine (ReadP _ A2 j c2 ((num N).take j) C3.out HBT.out HJ.out (by omega) (by omega) 0 0 HP.out).mono ?_; rintro e w5 ⟨rfl, p1⟩; have B5 := Aside0.mk (below_then HB.out HB.out.size p1.below); clear p1)))
              go_roundw
              case rel => exact ⟨j + 1, by omega, by go_num, B5⟩
              case measure => simp [intOf]; omega
            · have hd : decide ((j : Int) < (wd : Int)) = false := decide_eq_false (by omega)
              go_wp2
              go_ret
              exact ⟨rfl, below_then B2.out B2.out.size HB.out⟩
    · obtain ⟨m', rfl⟩ : ∃ m', m = m' + 1 := ⟨m - 1, by omega⟩
      have hmm := num_more (m' + 1)
      have he := HE.out
      rw [more, if_neg (by omega), hmm] at he
      have hd1 : decide ((0 : Int) < ((m' + 1 : Nat) : Int)) = true := decide_eq_true (by omega)
      have hd2 : decide (((m' + 1 : Nat) : Int) > (0 : Int)) = true := decide_eq_true (by omega)
      have HE1 := Aside0.mk he
      have hwd10 : wd + 1 ≤ 10 := by omega
      clear he hmm
      go_wp2
      go_roundw
      case rel => exact ⟨(m' + 1) / 128, wd + 1, by go_num, by omega, by go_num, hwd10, ⟨by rw [HE1.out]; omega⟩, trivial⟩
      case measure => simp [intOf]; omega
end Go.Proofs.Ytpebemljgeammab.Ph
