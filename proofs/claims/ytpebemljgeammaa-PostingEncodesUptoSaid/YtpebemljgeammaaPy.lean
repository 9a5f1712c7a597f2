/-
  PostingEncodes.
-/
import Derived.Test.YtpebemljgeammaaPz
namespace Go.Proofs.Ytpebemljgeammaa.Py
set_option linter.unusedVariables false
set_option linter.unusedSimpArgs false
open Go.RowKit Go.Proofs.YtpebemljgeammaaW.PrintWords Go.Proofs.YtpebemljgeammaaW.PrintMore Go.Proofs.Ytpebemljgeammaa.Hp Go.Proofs.Ytpebemljgeammaa.Fm Go.Proofs.Ytpebemljgeammaa.Pn Go.Proofs.Ytpebemljgeammaa.Pm Go.Proofs.Ytpebemljgeammaa.Pw Go.Proofs.Ytpebemljgeammaa.Pe Go.Proofs.Ytpebemljgeammaa.Pd Go.Proofs.Ytpebemljgeammaa.Pf Go.Proofs.Ytpebemljgeammaa.Pq Go.Proofs.Ytpebemljgeammaa.Pz Go.Proofs.Ytpebemljgeammaa.PPostingEncodes

theorem same_refl (l : List S107) : sameL l l = true := (sameL_iff l l).2 rfl
theorem nil_str : strOfNums [] = ByteArray.empty := rfl
set_option maxRecDepth 100000 in
set_option maxHeartbeats 2000000 in
theorem main (w : World) (A : Option Addr) (n : Nat) (l : List S107) (c : Nat) (hC : k107.C w A n l) (hn : n = l.length) (hc : n ≤ c) (hs : sz l ≤ 4194304) :
    Calls Try.prog 14 #[.slice A n c] w fun e w' => e = .returned (.bool true) ∧ Below w.heap.size w w' := by
  have hl4 := len_sz l
  have HC := Aside0.mk hC
  have HN := Aside0.mk hn
  cases hm : may l with
  | false =>
    have HM := Aside0.mk hm
    clear hC hn hm hs hl4
    go_enter Try.func14, Try.ntmps14
    go_wp2_with (first | (go_at_call 52; go_must (refine (Pg.fixed w).mono ?_; rintro e w1 ⟨rfl, p1⟩; have B1 := Aside0.mk p1; clear p1)) | (go_at_call 53; go_must (refine (EncNo w1 A n c l (Kd.C_below HC.out B1.out) HN.out hc HM.out).mono ?_; rintro e w2 ⟨rfl, p1⟩; have B2 := Aside0.mk (below_then B1.out B1.out.size p1); clear p1)) | (go_at_call 54; go_must (refine (RefEncP w2 A n c l (Kd.C_below HC.out B2.out) HN.out hc [] 1 (.inr ⟨HM.out, rfl, rfl⟩)).mono ?_; rintro e w3 ⟨v3, rfl, p1⟩; obtain ⟨A3, c3, rfl, hc3, hC3⟩ : ∃ A c, v3 = .slice A 0 c ∧ 0 ≤ c ∧ KB.C w3 A 0 [] := p1.reads 0 rfl; have B3 := Aside0.mk (below_then B2.out B2.out.size p1.below); have hcv3 := Sx.reads_string (P := Try.prog) (c := c3) Try.underlying33 Try.underlying5 Try.underlying9 (rdint hC3); have hcv2 := Sx.reads_string (P := Try.prog) (w := w3) (A := none) (c := 0) Try.underlying33 Try.underlying5 Try.underlying9 (rdint (show KB.C w3 none 0 [] from Kd.C_nil KB w3)); rw [nil_str] at hcv3 hcv2; clear p1 hC3)) | (go_at_call 55; go_must (refine (MayP w3 A n c l (Kd.C_below HC.out B3.out) HN.out hc false HM.out).mono ?_; rintro e w4 ⟨rfl, p1⟩; have B4 := Aside0.mk (below_then B3.out B3.out.size p1); clear p1)) | (go_at_call 56; go_must (refine (DecodeP w4 none 0 0 [] (Kd.C_nil _ _) (by intro x hx; cases hx) rfl (Nat.le_refl _) (by decide) [] 2 (.inr ⟨Pg.nil_dec, rfl, rfl⟩)).mono ?_; rintro e w5 ⟨v5, rfl, p1⟩; obtain ⟨A5, c5, rfl, -, -⟩ := p1.reads 0 rfl; have B5 := Aside0.mk (below_then B4.out B4.out.size p1.below); clear p1)))
    go_ret
    exact ⟨rfl, B5.out⟩
  | true =>
    have HM := Aside0.mk hm
    have HL := Aside0.mk (enc_small l hs hm)
    have HD := Aside0.mk (dec_of_enc l hm (by omega))
    have HS := Aside0.mk (same_refl l)
    obtain ⟨x, hx⟩ : ∃ x, x = encL l := ⟨_, rfl⟩
    obtain ⟨q, hq⟩ : ∃ q, q = x.length := ⟨_, rfl⟩
    have hql : q ≤ 140737488355328 := by rw [hq, hx]; exact HL.out
    have HX := Aside0.mk hx
    have HQ := Aside0.mk hq
    have HBY := Aside0.mk (show Byt x by rw [hx]; exact encL_byt l)
    obtain ⟨s, hst⟩ : ∃ s, s = strOfNums x := ⟨_, rfl⟩
    have HST := Aside0.mk hst
    clear hC hn hm hs hl4 hx hq hst
    go_enter Try.func14, Try.ntmps14
    go_wp2_with (first | (go_at_call 52; go_must (refine (Pg.fixed w).mono ?_; rintro e w1 ⟨rfl, p1⟩; have B1 := Aside0.mk p1; clear p1)) | (go_at_call 53; go_must (refine (EncOk w1 A n c l (Kd.C_below HC.out B1.out) HN.out hc HM.out HL.out).mono ?_; rintro e w2 ⟨v2, rfl, p1⟩; rw [← HX.out] at p1; obtain ⟨A2, c2, rfl, hc2, hC2⟩ := p1.reads 0 rfl; rw [← HQ.out] at hc2 hC2 ⊢; have C2 := Aside0.mk hC2; have B2 := Aside0.mk (below_then B1.out B1.out.size p1.below); clear p1 hC2)) | (go_at_call 54; go_must (refine (RefEncP w2 A n c l (Kd.C_below HC.out B2.out) HN.out hc x 0 (.inl ⟨HM.out, HL.out, HX.out, rfl⟩)).mono ?_; rintro e w3 ⟨v3, rfl, p1⟩; obtain ⟨A3, c3, rfl, hc3, hC3⟩ := p1.reads 0 rfl; rw [← HQ.out] at hc3 hC3 ⊢; have B3 := Aside0.mk (below_then B2.out B2.out.size p1.below); have C3 := Aside0.mk (Kd.C_below C2.out p1.below); have hcv3 := Sx.reads_string (P := Try.prog) (c := c3) Try.underlying33 Try.underlying5 Try.underlying9 (rdint hC3); have hcv2 := Sx.reads_string (P := Try.prog) (c := c2) Try.underlying33 Try.underlying5 Try.underlying9 (rdint C3.out); rw [← HST.out] at hcv3 hcv2; clear p1 hC3)) | (go_at_call 55; go_must (refine (MayP w3 A n c l (Kd.C_below HC.out B3.out) HN.out hc true HM.out).mono ?_; rintro e w4 ⟨rfl, p1⟩; have B4 := Aside0.mk (below_then B3.out B3.out.size p1); have C4 := Aside0.mk (Kd.C_below C3.out p1); clear p1)) | (go_at_call 56; go_must (refine (DecodeP w4 A2 q c2 x C4.out HBY.out HQ.out hc2 hql l 0 (.inl ⟨(by rw [HX.out]; exact HD.out), rfl⟩)).mono ?_; rintro e w5 ⟨v5, rfl, p1⟩; obtain ⟨A5, c5, rfl, hc5, hC5⟩ := p1.reads 0 rfl; rw [← HN.out] at hc5 hC5 ⊢; have C5 := Aside0.mk hC5; have B5 := Aside0.mk (below_then B4.out B4.out.size p1.below); clear p1 hC5)) | (go_at_call 57; go_must (refine (SameP w5 A5 n c5 l C5.out HN.out hc5 A n c l (Kd.C_below HC.out B5.out) HN.out hc true HS.out).mono ?_; rintro e w6 ⟨rfl, p1⟩; have B6 := Aside0.mk (below_then B5.out B5.out.size p1.below); clear p1)))
    go_ret
    exact ⟨rfl, B6.out⟩
theorem walk (w : World) (A : Option Addr) (xs : List (Int × List Int)) (c : Nat) (hC : (Kd.pair (Kd.int .i64) (Kd.slice 3 (Kd.int .i64))).C w A xs.length xs) (hc : xs.length ≤ c) (_hw : ∀ x, x ∈ xs → (Lit.int .i64 x.1).wf = true ∧ ∀ y, y ∈ x.2 → (Lit.int .i64 y).wf = true) (hB : Od.sumB (fun x : Int × List Int => 1 + (Od.sumB (fun _ => 1) x.2 + 1) + 1) xs ≤ 1048576) :
    Calls Try.prog 14 #[.slice A xs.length c] w fun e w' => e = .returned (.bool true) ∧ Below w.heap.size w w' :=
  main w A xs.length _ c (k_of_pair hC) (by simp) hc (Nat.le_trans (sz_bulk xs) (by omega))
end Go.Proofs.Ytpebemljgeammaa.Py
