/-
  UtfWidths.
-/
import Derived.Test.YtpebemljgeammaaRt
import Derived.Test.YtpebemljgeammaaUn
import Derived.Test.YtpebemljgeammaaUk
import Derived.Deep.CutRange
import Derived.Deep.DeepCutAuto
namespace Go.Proofs.Ytpebemljgeammaa.Uw
set_option linter.unusedVariables false
set_option linter.unusedSimpArgs false
open Go.RowKit Go.Proofs.YtpebemljgeammaaW.PrintWords Go.Proofs.Ytpebemljgeammaa.Hp Go.Proofs.Ytpebemljgeammaa.En Go.Proofs.Ytpebemljgeammaa.Ud Go.Proofs.Ytpebemljgeammaa.Ux Go.Proofs.Ytpebemljgeammaa.Uk Go.Proofs.Ytpebemljgeammaa.Rt

theorem EncW (w : World) (b : Nat) (r : Int) (N : Nat) (hN : N = (enc1 r).length) (hb : w.heap[b]? = some (.cells #[.int .i32 r] 21 (0, 0))) :
    Calls Try.prog 46 #[.slice (some ⟨b, 0, none⟩) 1 1] w fun e w' => ∃ A c, e = .returned (.slice A N c) ∧ N ≤ c ∧ KB.C w' A N (enc1 r) ∧ Below w.heap.size w w' := by
  have h1 := rdC (lit_reads (k := .i32) (xs := [r]) hb rfl (by simp))
  refine (Un.EncP w _ 1 1 [r] rfl h1 (by omega) (by decide)).mono ?_
  rintro e w' ⟨v, rfl, h2, h3⟩
  have e1 : enc [r] = enc1 r := by simp [enc]
  rw [e1] at h2
  obtain ⟨A, c, rfl, hc, hC⟩ := Kd.R_reads h2
  rw [← hN] at hc hC ⊢
  exact ⟨A, c, rfl, hc, hC, h3⟩
theorem Dec1 (w : World) (A : Option Addr) (n c : Nat) (r : Int) (hb : KB.C w A n (enc1 r)) :
    Calls Try.prog 42 #[.slice A n c] w fun e w' => ∃ A' c', e = .returned (.slice A' 1 c') ∧ Below w.heap.size w w' := by
  have hn : n ≤ 4 := by have := encv_len (fixr r); have h2 := hb.1; unfold enc1 at h2; omega
  have hB : Bytes (enc1 r) := by have := enc_byte [r]; simpa [enc] using this
  refine (DecP w A n c (enc1 r) _ 1 hb hB (by omega) (full_enc1 r) rfl).mono ?_
  rintro e w' ⟨A', c', rfl, _, _, h⟩
  exact ⟨A', c', rfl, h⟩
/-- The bytes behind the first, none of them begins one. -/
theorem Dec2 (w : World) (A : Option Addr) (n c : Nat) (l : List Int) (hb : KB.C w A n l) (hn : 0 < n) (hl : n ≤ 4) (h : Cont l) :
    Calls Try.prog 42 #[.slice A n c] w fun e w' => ∃ ad c', e = .returned (.slice (some ad) n c') ∧ n ≤ c' ∧ w'.cell? ad = some (.int .i32 65533) ∧ Below w.heap.size w w' := by
  have hf := full_conts l h
  have hnl : n = (full l).length := by rw [hf.1]; exact hb.1.symm
  refine (DecP w A n c l (full l) n hb (fun x hx => by have := h x hx; omega) (by omega) rfl hnl).mono ?_
  rintro e w' ⟨A', c', rfl, h1, h2, h3⟩
  obtain ⟨x, hx⟩ : ∃ x, (full l)[0]? = some x := ⟨(full l)[0]'(by omega), List.getElem?_eq_getElem _⟩
  obtain ⟨ad, rfl, h4, _, _⟩ := Ug.pts_at h2 0 hn x hx
  refine ⟨ad, c', rfl, h1, ?_, h3⟩
  rw [hf.2 x (List.mem_of_getElem? hx)] at h4
  rw [Nat.zero_mul, show ad.add 0 = ad from if_pos rfl] at h4
  exact h4


set_option maxRecDepth 100000 in
set_option maxHeartbeats 4000000 in
theorem widths (w : World) (A : Option Addr) (l : List Int) (c : Nat) (hC : Un.KI.C w A l.length l) (hc : l.length ≤ c) (hw : ∀ x, x ∈ l → (Lit.int .i32 x).wf = true) (hb : l.length * 4 ≤ 140737488351232) :
    Calls Try.prog 12 #[.slice A l.length c] w fun e w' => e = .returned (.bool true) ∧ Below w.heap.size w w' := by
  obtain ⟨n, hn⟩ : ∃ n, n = l.length := ⟨_, rfl⟩
  rw [← hn] at hC hc hb ⊢
  have HC := Aside0.mk hC
  clear hC hw hn
  go_enter Try.func12, Try.ntmps12
  go_wp2_with (first | (go_at_call 40; go_must (refine (Ug.fixed w).mono ?_; rintro e w1 ⟨rfl, p1⟩; have P1 := Aside0.mk p1; clear p1)))
  go_loopw [13] (fun i wr => ∃ k : Nat, k ≤ n ∧ i = .int .i64 k ∧ Aside0 (Below w1.heap.size w1 wr)) (fun i _ => n - (intOf i).toNat)
  case atStart => exact ⟨0, Nat.zero_le _, rfl, ⟨Below.refl _ _⟩⟩
  case round =>
    obtain ⟨k, hk, rfl, HD⟩ := hrel
    have HW := Aside0.mk (below_then P1.out P1.out.size HD.out)
    by_cases hlt : k < n
    · have hd : decide (k < n) = true := by simpa using hlt
      obtain ⟨ad, r, rfl, -, hcell⟩ := Un.elt (rdint (Kd.C_below HC.out HW.out)) k hlt
      have hN := width r
      cases hb : vld r with
      | false =>
        have hV : PUtfDecodes.utf_Valid.f r = some false := by rw [valid_pure, hb]
        rw [hb] at hN
        replace hN : 3 = (enc1 r).length := by rw [hN, if_neg (by decide)]
        clear hb
        have HN := Aside0.mk hN
        have HL := Aside0.mk (heap_alloc_new wr (.cells #[.int .i32 r] 21))
        have HV := Aside0.mk hV
        clear hN hV
        go_wp2_with (first | (go_at_call 46; go_must (have t0 := HL.out; refine (EncW _ _ r 3 HN.out t0).mono ?_; rintro e w2 ⟨A2, c2, rfl, p1, p2, p3⟩; have Q1 := Aside0.mk p1; have Q2 := Aside0.mk p2; have Q3 := Aside0.mk (below_then (below_alloc (Below.refl wr.heap.size wr) (.cells #[.int .i32 r] 21)) (below_alloc (Below.refl wr.heap.size wr) (.cells #[.int .i32 r] 21)).size p3); clear p1 p2 p3 t0 HL)) | (go_at_call 44; go_must (refine (PUtfDecodes.utf_Valid.calls r _ w2 HV.out).mono ?_; rintro e w3 ⟨rfl, p1⟩; have D1 := Aside0.mk p1; clear p1)) | (go_at_call 42; go_must (refine (Dec1 w3 A2 3 c2 r (Kd.C_below Q2.out D1.out.below)).mono ?_; rintro e w4 ⟨A4, c4, rfl, p1⟩; have B4 := Aside0.mk (below_then (below_then Q3.out Q3.out.size D1.out.below) (below_then Q3.out Q3.out.size D1.out.below).size p1); have HC4 := Aside0.mk (Kd.C_below Q2.out (below_then D1.out.below D1.out.below.size p1)); clear p1)))
        go_loopw [7] (fun jv wx => ∃ j : Nat, 1 ≤ j ∧ j ≤ 3 ∧ jv = .int .i64 j ∧ Aside0 (Below w4.heap.size w4 wx)) (fun jv _ => 3 - (intOf jv).toNat)
        case atStart => exact ⟨1, by omega, by omega, rfl, ⟨Below.refl _ _⟩⟩
        case round =>
          obtain ⟨j, hj1, hj2, rfl, HX⟩ := hrel
          by_cases hjl : j < 3
          · have hd1 : decide ((j : Int) < 3) = true := by simp; omega
            have hd2 : decide (j < 3) = true := by simpa using hjl
            obtain ⟨i8, hi8, hz8⟩ := Option.map_eq_some_iff.1 info_8
            simp only [Prod.mk.injEq] at hz8
            obtain ⟨A5, hA5⟩ : ∃ A5, A5 = (if c2 = j then A2 else A2.map (·.add (j * 1))) := ⟨_, rfl⟩
            have hcc := Q1.out
            have hcut : ∀ W : World, (Instr.slice 33 (.slice A2 3 c2) (some (.int .i64 (j : Int))) none none).run Try.prog W = .ok (.slice A5 (3 - j) (c2 - j)) W := by
              intro W
              have := cut_from (P := Try.prog) 33 5 .i64 Try.underlying33 hi8 1 hz8.2.1 A2 3 c2 (j : Int) (by omega) (by omega) W
              rw [hA5]
              simpa using this
            have hread := ((rdint HC4.out).below HX.out).drop_ j hj2 hcc
            have e5 : (if c2 = j then A2 else A2.map (·.add j)) = A5 := by rw [hA5]; simp
            rw [e5] at hread
            clear e5
            obtain ⟨M, hM⟩ : ∃ M, M = 3 - j := ⟨_, rfl⟩
            rw [← hM] at hread hcut
            have hne : ((M : Int) != 3 - (j : Int)) = false := by simp; omega
            have hM0 : 0 < M := by omega
            have hM4 : M ≤ 4 := by omega
            have HCT := Aside0.mk (encv_tail (fixr r) (fixr_ok r).1 j hj1)
            have HRD := Aside0.mk (rdC hread)
            clear hi8 hz8 hA5 hread hM hcc
            go_wp2_with (first | (go_at_call 42; go_must (refine (Dec2 wr A5 M _ _ HRD.out hM0 hM4 HCT.out).mono ?_; rintro e w5 ⟨a6, c6, rfl, hc6, hcell6, p1⟩; have B5 := Aside0.mk p1; clear p1)))
            go_roundw
            case rel => exact ⟨j + 1, by omega, by omega, by go_num, ⟨below_then HX.out HX.out.size B5.out⟩⟩
            case measure => simp [intOf]; omega
          · have hd1 : decide ((j : Int) < 3) = false := by simp; omega
            have hd2 : decide (j < 3) = false := by simpa using hjl
            go_wp2
            go_roundw
            case rel => exact ⟨k + 1, by omega, by go_num, ⟨below_then HD.out HD.out.size (below_then B4.out B4.out.size HX.out)⟩⟩
            case measure => simp [intOf]; omega
      | true =>
        have hV : PUtfDecodes.utf_Valid.f r = some true := by rw [valid_pure, hb]
        rw [hb, if_pos rfl] at hN
        clear hb
        by_cases h1 : r < 128
        · have ht1 : decide (r < 128) = true := by simpa using h1
          rw [if_pos h1] at hN
          replace hN : 1 = (enc1 r).length := hN.symm
          clear h1
          have HN := Aside0.mk hN
          have HL := Aside0.mk (heap_alloc_new wr (.cells #[.int .i32 r] 21))
          have HV := Aside0.mk hV
          clear hN hV
          go_wp2_with (first | (go_at_call 46; go_must (have t0 := HL.out; refine (EncW _ _ r 1 HN.out t0).mono ?_; rintro e w2 ⟨A2, c2, rfl, p1, p2, p3⟩; have Q1 := Aside0.mk p1; have Q2 := Aside0.mk p2; have Q3 := Aside0.mk (below_then (below_alloc (Below.refl wr.heap.size wr) (.cells #[.int .i32 r] 21)) (below_alloc (Below.refl wr.heap.size wr) (.cells #[.int .i32 r] 21)).size p3); clear p1 p2 p3 t0 HL)) | (go_at_call 44; go_must (refine (PUtfDecodes.utf_Valid.calls r _ w2 HV.out).mono ?_; rintro e w3 ⟨rfl, p1⟩; have D1 := Aside0.mk p1; clear p1)) | (go_at_call 42; go_must (refine (Dec1 w3 A2 1 c2 r (Kd.C_below Q2.out D1.out.below)).mono ?_; rintro e w4 ⟨A4, c4, rfl, p1⟩; have B4 := Aside0.mk (below_then (below_then Q3.out Q3.out.size D1.out.below) (below_then Q3.out Q3.out.size D1.out.below).size p1); have HC4 := Aside0.mk (Kd.C_below Q2.out (below_then D1.out.below D1.out.below.size p1)); clear p1)))
          go_loopw [7] (fun jv wx => ∃ j : Nat, 1 ≤ j ∧ j ≤ 1 ∧ jv = .int .i64 j ∧ Aside0 (Below w4.heap.size w4 wx)) (fun jv _ => 1 - (intOf jv).toNat)
          case atStart => exact ⟨1, by omega, by omega, rfl, ⟨Below.refl _ _⟩⟩
          case round =>
            obtain ⟨j, hj1, hj2, rfl, HX⟩ := hrel
            by_cases hjl : j < 1
            · omega
            · have hd1 : decide ((j : Int) < 1) = false := by simp; omega
              have hd2 : decide (j < 1) = false := by simpa using hjl
              go_wp2
              go_roundw
              case rel => exact ⟨k + 1, by omega, by go_num, ⟨below_then HD.out HD.out.size (below_then B4.out B4.out.size HX.out)⟩⟩
              case measure => simp [intOf]; omega
        · have ht1 : decide (r < 128) = false := by simpa using h1
          rw [if_neg h1] at hN
          clear h1
          by_cases h1 : r < 2048
          · have ht2 : decide (r < 2048) = true := by simpa using h1
            rw [if_pos h1] at hN
            replace hN : 2 = (enc1 r).length := hN.symm
            clear h1
            have HN := Aside0.mk hN
            have HL := Aside0.mk (heap_alloc_new wr (.cells #[.int .i32 r] 21))
            have HV := Aside0.mk hV
            clear hN hV
            go_wp2_with (first | (go_at_call 46; go_must (have t0 := HL.out; refine (EncW _ _ r 2 HN.out t0).mono ?_; rintro e w2 ⟨A2, c2, rfl, p1, p2, p3⟩; have Q1 := Aside0.mk p1; have Q2 := Aside0.mk p2; have Q3 := Aside0.mk (below_then (below_alloc (Below.refl wr.heap.size wr) (.cells #[.int .i32 r] 21)) (below_alloc (Below.refl wr.heap.size wr) (.cells #[.int .i32 r] 21)).size p3); clear p1 p2 p3 t0 HL)) | (go_at_call 44; go_must (refine (PUtfDecodes.utf_Valid.calls r _ w2 HV.out).mono ?_; rintro e w3 ⟨rfl, p1⟩; have D1 := Aside0.mk p1; clear p1)) | (go_at_call 42; go_must (refine (Dec1 w3 A2 2 c2 r (Kd.C_below Q2.out D1.out.below)).mono ?_; rintro e w4 ⟨A4, c4, rfl, p1⟩; have B4 := Aside0.mk (below_then (below_then Q3.out Q3.out.size D1.out.below) (below_then Q3.out Q3.out.size D1.out.below).size p1); have HC4 := Aside0.mk (Kd.C_below Q2.out (below_then D1.out.below D1.out.below.size p1)); clear p1)))
            go_loopw [7] (fun jv wx => ∃ j : Nat, 1 ≤ j ∧ j ≤ 2 ∧ jv = .int .i64 j ∧ Aside0 (Below w4.heap.size w4 wx)) (fun jv _ => 2 - (intOf jv).toNat)
            case atStart => exact ⟨1, by omega, by omega, rfl, ⟨Below.refl _ _⟩⟩
            case round =>
              obtain ⟨j, hj1, hj2, rfl, HX⟩ := hrel
              by_cases hjl : j < 2
              · have hd1 : decide ((j : Int) < 2) = true := by simp; omega
                have hd2 : decide (j < 2) = true := by simpa using hjl
                obtain ⟨i8, hi8, hz8⟩ := Option.map_eq_some_iff.1 info_8
                simp only [Prod.mk.injEq] at hz8
                obtain ⟨A5, hA5⟩ : ∃ A5, A5 = (if c2 = j then A2 else A2.map (·.add (j * 1))) := ⟨_, rfl⟩
                have hcc := Q1.out
                have hcut : ∀ W : World, (Instr.slice 33 (.slice A2 2 c2) (some (.int .i64 (j : Int))) none none).run Try.prog W = .ok (.slice A5 (2 - j) (c2 - j)) W := by
                  intro W
                  have := cut_from (P := Try.prog) 33 5 .i64 Try.underlying33 hi8 1 hz8.2.1 A2 2 c2 (j : Int) (by omega) (by omega) W
                  rw [hA5]
                  simpa using this
                have hread := ((rdint HC4.out).below HX.out).drop_ j hj2 hcc
                have e5 : (if c2 = j then A2 else A2.map (·.add j)) = A5 := by rw [hA5]; simp
                rw [e5] at hread
                clear e5
                obtain ⟨M, hM⟩ : ∃ M, M = 2 - j := ⟨_, rfl⟩
                rw [← hM] at hread hcut
                have hne : ((M : Int) != 2 - (j : Int)) = false := by simp; omega
                have hM0 : 0 < M := by omega
                have hM4 : M ≤ 4 := by omega
                have HCT := Aside0.mk (encv_tail (fixr r) (fixr_ok r).1 j hj1)
                have HRD := Aside0.mk (rdC hread)
                clear hi8 hz8 hA5 hread hM hcc
                go_wp2_with (first | (go_at_call 42; go_must (refine (Dec2 wr A5 M _ _ HRD.out hM0 hM4 HCT.out).mono ?_; rintro e w5 ⟨a6, c6, rfl, hc6, hcell6, p1⟩; have B5 := Aside0.mk p1; clear p1)))
                go_roundw
                case rel => exact ⟨j + 1, by omega, by omega, by go_num, ⟨below_then HX.out HX.out.size B5.out⟩⟩
                case measure => simp [intOf]; omega
              · have hd1 : decide ((j : Int) < 2) = false := by simp; omega
                have hd2 : decide (j < 2) = false := by simpa using hjl
                go_wp2
                go_roundw
                case rel => exact ⟨k + 1, by omega, by go_num, ⟨below_then HD.out HD.out.size (below_then B4.out B4.out.size HX.out)⟩⟩
                case measure => simp [intOf]; omega
          · have ht2 : decide (r < 2048) = false := by simpa using h1
            rw [if_neg h1] at hN
            clear h1
            by_cases h1 : r < 65536
            · have ht3 : decide (r < 65536) = true := by simpa using h1
              rw [if_pos h1] at hN
              replace hN : 3 = (enc1 r).length := hN.symm
              clear h1
              have HN := Aside0.mk hN
              have HL := Aside0.mk (heap_alloc_new wr (.cells #[.int .i32 r] 21))
              have HV := Aside0.mk hV
              clear hN hV
              go_wp2_with (first | (go_at_call 46; go_must (have t0 := HL.out; refine (EncW _ _ r 3 HN.out t0).mono ?_; rintro e w2 ⟨A2, c2, rfl, p1, p2, p3⟩; have Q1 := Aside0.mk p1; have Q2 := Aside0.mk p2; have Q3 := Aside0.mk (below_then (below_alloc (Below.refl wr.heap.size wr) (.cells #[.int .i32 r] 21)) (below_alloc (Below.refl wr.heap.size wr) (.cells #[.int .i32 r] 21)).size p3); clear p1 p2 p3 t0 HL)) | (go_at_call 44; go_must (refine (PUtfDecodes.utf_Valid.calls r _ w2 HV.out).mono ?_; rintro e w3 ⟨rfl, p1⟩; have D1 := Aside0.mk p1; clear p1)) | (go_at_call 42; go_must (refine (Dec1 w3 A2 3 c2 r (Kd.C_below Q2.out D1.out.below)).mono ?_; rintro e w4 ⟨A4, c4, rfl, p1⟩; have B4 := Aside0.mk (below_then (below_then Q3.out Q3.out.size D1.out.below) (below_then Q3.out Q3.out.size D1.out.below).size p1); have HC4 := Aside0.mk (Kd.C_below Q2.out (below_then D1.out.below D1.out.below.size p1)); clear p1)))
              go_loopw [7] (fun jv wx => ∃ j : Nat, 1 ≤ j ∧ j ≤ 3 ∧ jv = .int .i64 j ∧ Aside0 (Below w4.heap.size w4 wx)) (fun jv _ => 3 - (intOf jv).toNat)
              case atStart => exact ⟨1, by omega, by omega, rfl, ⟨Below.refl _ _⟩⟩
              case round =>
                obtain ⟨j, hj1, hj2, rfl, HX⟩ := hrel
                by_cases hjl : j < 3
                · have hd1 : decide ((j : Int) < 3) = true := by simp; omega
                  have hd2 : decide (j < 3) = true := by simpa using hjl
                  obtain ⟨i8, hi8, hz8⟩ := Option.map_eq_some_iff.1 info_8
                  simp only [Prod.mk.injEq] at hz8
                  obtain ⟨A5, hA5⟩ : ∃ A5, A5 = (if c2 = j then A2 else A2.map (·.add (j * 1))) := ⟨_, rfl⟩
                  have hcc := Q1.out
                  have hcut : ∀ W : World, (Instr.slice 33 (.slice A2 3 c2) (some (.int .i64 (j : Int))) none none).run Try.prog W = .ok (.slice A5 (3 - j) (c2 - j)) W := by
                    intro W
                    have := cut_from (P := Try.prog) 33 5 .i64 Try.underlying33 hi8 1 hz8.2.1 A2 3 c2 (j : Int) (by omega) (by omega) W
                    rw [hA5]
                    simpa using this
                  have hread := ((rdint HC4.out).below HX.out).drop_ j hj2 hcc
                  have e5 : (if c2 = j then A2 else A2.map (·.add j)) = A5 := by rw [hA5]; simp
                  rw [e5] at hread
                  clear e5
                  obtain ⟨M, hM⟩ : ∃ M, M = 3 - j := ⟨_, rfl⟩
                  rw [← hM] at hread hcut
                  have hne : ((M : Int) != 3 - (j : Int)) = false := by simp; omega
                  have hM0 : 0 < M := by omega
                  have hM4 : M ≤ 4 := by omega
                  have HCT := Aside0.mk (encv_tail (fixr r) (fixr_ok r).1 j hj1)
                  have HRD := Aside0.mk (rdC hread)
                  clear hi8 hz8 hA5 hread hM hcc
                  go_wp2_with (first | (go_at_call 42; go_must (refine (Dec2 wr A5 M _ _ HRD.out hM0 hM4 HCT.out).mono ?_; rintro e w5 ⟨a6, c6, rfl, hc6, hcell6, p1⟩; have B5 := Aside0.mk p1; clear p1)))
                  go_roundw
                  case rel => exact ⟨j + 1, by omega, by omega, by go_num, ⟨below_then HX.out HX.out.size B5.out⟩⟩
                  case measure => simp [intOf]; omega
                · have hd1 : decide ((j : Int) < 3) = false := by simp; omega
                  have hd2 : decide (j < 3) = false := by simpa using hjl
                  go_wp2
                  go_roundw
                  case rel => exact ⟨k + 1, by omega, by go_num, ⟨below_then HD.out HD.out.size (below_then B4.out B4.out.size HX.out)⟩⟩
                  case measure => simp [intOf]; omega
            · have ht3 : decide (r < 65536) = false := by simpa using h1
              rw [if_neg h1] at hN
              replace hN : 4 = (enc1 r).length := hN.symm
              clear h1
              have HN := Aside0.mk hN
              have HL := Aside0.mk (heap_alloc_new wr (.cells #[.int .i32 r] 21))
              have HV := Aside0.mk hV
              clear hN hV
              go_wp2_with (first | (go_at_call 46; go_must (have t0 := HL.out; refine (EncW _ _ r 4 HN.out t0).mono ?_; rintro e w2 ⟨A2, c2, rfl, p1, p2, p3⟩; have Q1 := Aside0.mk p1; have Q2 := Aside0.mk p2; have Q3 := Aside0.mk (below_then (below_alloc (Below.refl wr.heap.size wr) (.cells #[.int .i32 r] 21)) (below_alloc (Below.refl wr.heap.size wr) (.cells #[.int .i32 r] 21)).size p3); clear p1 p2 p3 t0 HL)) | (go_at_call 44; go_must (refine (PUtfDecodes.utf_Valid.calls r _ w2 HV.out).mono ?_; rintro e w3 ⟨rfl, p1⟩; have D1 := Aside0.mk p1; clear p1)) | (go_at_call 42; go_must (refine (Dec1 w3 A2 4 c2 r (Kd.C_below Q2.out D1.out.below)).mono ?_; rintro e w4 ⟨A4, c4, rfl, p1⟩; have B4 := Aside0.mk (below_then (below_then Q3.out Q3.out.size D1.out.below) (below_then Q3.out Q3.out.size D1.out.below).size p1); have HC4 := Aside0.mk (Kd.C_below Q2.out (below_then D1.out.below D1.out.below.size p1)); clear p1)))
              go_loopw [7] (fun jv wx => ∃ j : Nat, 1 ≤ j ∧ j ≤ 4 ∧ jv = .int .i64 j ∧ Aside0 (Below w4.heap.size w4 wx)) (fun jv _ => 4 - (intOf jv).toNat)
              case atStart => exact ⟨1, by omega, by omega, rfl, ⟨Below.refl _ _⟩⟩
              case round =>
                obtain ⟨j, hj1, hj2, rfl, HX⟩ := hrel
                by_cases hjl : j < 4
                · have hd1 : decide ((j : Int) < 4) = true := by simp; omega
                  have hd2 : decide (j < 4) = true := by simpa using hjl
                  obtain ⟨i8, hi8, hz8⟩ := Option.map_eq_some_iff.1 info_8
                  simp only [Prod.mk.injEq] at hz8
                  obtain ⟨A5, hA5⟩ : ∃ A5, A5 = (if c2 = j then A2 else A2.map (·.add (j * 1))) := ⟨_, rfl⟩
                  have hcc := Q1.out
                  have hcut : ∀ W : World, (Instr.slice 33 (.slice A2 4 c2) (some (.int .i64 (j : Int))) none none).run Try.prog W = .ok (.slice A5 (4 - j) (c2 - j)) W := by
                    intro W
                    have := cut_from (P := Try.prog) 33 5 .i64 Try.underlying33 hi8 1 hz8.2.1 A2 4 c2 (j : Int) (by omega) (by omega) W
                    rw [hA5]
                    simpa using this
                  have hread := ((rdint HC4.out).below HX.out).drop_ j hj2 hcc
                  have e5 : (if c2 = j then A2 else A2.map (·.add j)) = A5 := by rw [hA5]; simp
                  rw [e5] at hread
                  clear e5
                  obtain ⟨M, hM⟩ : ∃ M, M = 4 - j := ⟨_, rfl⟩
                  rw [← hM] at hread hcut
                  have hne : ((M : Int) != 4 - (j : Int)) = false := by simp; omega
                  have hM0 : 0 < M := by omega
                  have hM4 : M ≤ 4 := by omega
                  have HCT := Aside0.mk (encv_tail (fixr r) (fixr_ok r).1 j hj1)
                  have HRD := Aside0.mk (rdC hread)
                  clear hi8 hz8 hA5 hread hM hcc
                  go_wp2_with (first | (go_at_call 42; go_must (refine (Dec2 wr A5 M _ _ HRD.out hM0 hM4 HCT.out).mono ?_; rintro e w5 ⟨a6, c6, rfl, hc6, hcell6, p1⟩; have B5 := Aside0.mk p1; clear p1)))
                  go_roundw
                  case rel => exact ⟨j + 1, by omega, by omega, by go_num, ⟨below_then HX.out HX.out.size B5.out⟩⟩
                  case measure => simp [intOf]; omega
                · have hd1 : decide ((j : Int) < 4) = false := by simp; omega
                  have hd2 : decide (j < 4) = false := by simpa using hjl
                  go_wp2
                  go_roundw
                  case rel => exact ⟨k + 1, by omega, by go_num, ⟨below_then HD.out HD.out.size (below_then B4.out B4.out.size HX.out)⟩⟩
                  case measure => simp [intOf]; omega
    · have hd : decide (k < n) = false := by simpa using hlt
      go_wp2
      go_ret
      exact ⟨rfl, HW.out⟩
end Go.Proofs.Ytpebemljgeammaa.Uw
