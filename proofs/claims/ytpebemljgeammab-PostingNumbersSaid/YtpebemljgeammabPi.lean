/-
  PostingDecodes.
-/
import Derived.Test.YtpebemljgeammabPr
import Derived.Test.YtpebemljgeammabPh
namespace Go.Proofs.Ytpebemljgeammab.Pi
set_option linter.unusedVariables false
set_option linter.unusedSimpArgs false
open Go.RowKit Go.Proofs.YtpebemljgeammabW.PrintWords Go.Proofs.Ytpebemljgeammab.Hp Go.Proofs.Ytpebemljgeammab.Fm Go.Proofs.Ytpebemljgeammab.Pn Go.Proofs.Ytpebemljgeammab.Pnr Go.Proofs.Ytpebemljgeammab.Pm Go.Proofs.Ytpebemljgeammab.Pw Go.Proofs.Ytpebemljgeammab.Pe Go.Proofs.Ytpebemljgeammab.Pd Go.Proofs.Ytpebemljgeammab.Pf Go.Proofs.Ytpebemljgeammab.Pr Go.Proofs.Ytpebemljgeammab.Ph Go.Proofs.Ytpebemljgeammab.PPostingDecodes

theorem nil_enc : encL ([] : List S42) = [0] := by rw [encL, encF, List.length_nil, num_small (by decide)]; rfl
theorem same_refl (l : List S42) : sameL l l = true := (sameL_iff l l).2 rfl
set_option maxRecDepth 100000 in
set_option maxHeartbeats 2000000 in
theorem walk (w : World) (A : Option Addr) (b : List Int) (c : Nat) (hC : KB.C w A b.length b) (hc : b.length ≤ c) (hw : ∀ x, x ∈ b → (Lit.int .u8 x).wf = true) (hb : b.length * 1 ≤ 140737488351232) :
    Calls Try.prog 3 #[.slice A b.length c] w fun e w' => e = .returned (.bool true) ∧ Below w.heap.size w w' := by
  have hB := wf_byt hw
  obtain ⟨n, hn⟩ : ∃ n, n = b.length := ⟨_, rfl⟩
  rw [← hn] at hC hc hb ⊢
  have hl : n ≤ 140737488355328 := by omega
  have HC := Aside0.mk hC
  have HB := Aside0.mk hB
  have HN := Aside0.mk hn
  cases hd : (dec b : Option (List S42)) with
  | none =>
    have HD := Aside0.mk hd
    clear hC hB hn hw hb hd
    go_enter Try.func3, Try.ntmps3
    go_wp2_with (first | (go_at_call 8; go_must (refine (Pg.fixed w).mono ?_; rintro e w1 ⟨rfl, p1⟩; have B1 := Aside0.mk p1; clear p1)) | (go_at_call 9; go_must (refine (DecodeP w1 A n c b (Kd.C_below HC.out B1.out) HB.out HN.out hc hl [] 2 (.inr ⟨HD.out, rfl, rfl⟩)).mono ?_; rintro e w2 ⟨v2, rfl, p1⟩; obtain ⟨A2, c2, rfl, hc2, hC2⟩ : ∃ A c, v2 = .slice A 0 c ∧ 0 ≤ c ∧ k42.C w2 A 0 [] := p1.reads 0 rfl; have C2 := Aside0.mk hC2; have B2 := Aside0.mk (below_then B1.out B1.out.size p1.below); clear p1 hC2)) | (go_at_call 10; go_must (refine (RefDecodeP w2 A n c b (Kd.C_below HC.out B2.out) HB.out HN.out hc hl [] 2 (.inr ⟨HD.out, rfl, rfl⟩)).mono ?_; rintro e w3 ⟨v3, rfl, p1⟩; obtain ⟨A3, c3, rfl, hc3, hC3⟩ : ∃ A c, v3 = .slice A 0 c ∧ 0 ≤ c ∧ k42.C w3 A 0 [] := p1.reads 0 rfl; have C3 := Aside0.mk hC3; have C23 := Aside0.mk (Kd.C_below C2.out p1.below); have B3 := Aside0.mk (below_then B2.out B2.out.size p1.below); clear p1 hC3)) | (go_at_call 11; go_must (refine (SameP w3 A2 0 c2 [] C23.out rfl hc2 A3 0 c3 [] C3.out rfl hc3 true rfl).mono ?_; rintro e w4 ⟨rfl, p1⟩; have C24 := Aside0.mk (Kd.C_below C23.out p1.below); have B4 := Aside0.mk (below_then B3.out B3.out.size p1.below); clear p1)) | (go_at_call 12; go_must (refine (EncOk w4 A2 0 c2 [] C24.out rfl hc2 rfl (by rw [nil_enc]; decide)).mono ?_; rintro e w5 ⟨v5, rfl, p1⟩; obtain ⟨A5, c5, rfl, -, -⟩ := p1.reads 0 rfl; have B5 := Aside0.mk (below_then B4.out B4.out.size p1.below); clear p1)))
    go_ret
    exact ⟨rfl, B5.out⟩
  | some l =>
    have HD := Aside0.mk hd
    obtain ⟨he, hm⟩ := dec_enc hB hd
    have HE := Aside0.mk he
    have HM := Aside0.mk hm
    have HL := Aside0.mk (show (encL l).length ≤ 140737488355328 by rw [he, ← hn]; exact hl)
    have HS := Aside0.mk (same_refl l)
    obtain ⟨q, hq⟩ : ∃ q, q = l.length := ⟨_, rfl⟩
    have HQ := Aside0.mk hq
    obtain ⟨s, hs⟩ : ∃ s, s = strOfNums b := ⟨_, rfl⟩
    have HST := Aside0.mk hs
    clear hC hB hn hw hb hd he hm hq hs
    go_enter Try.func3, Try.ntmps3
    go_wp2_with (first | (go_at_call 8; go_must (refine (Pg.fixed w).mono ?_; rintro e w1 ⟨rfl, p1⟩; have B1 := Aside0.mk p1; clear p1)) | (go_at_call 9; go_must (refine (DecodeP w1 A n c b (Kd.C_below HC.out B1.out) HB.out HN.out hc hl l 0 (.inl ⟨HD.out, rfl⟩)).mono ?_; rintro e w2 ⟨v2, rfl, p1⟩; obtain ⟨A2, c2, rfl, hc2, hC2⟩ := p1.reads 0 rfl; rw [← HQ.out] at hc2 hC2 ⊢; have C2 := Aside0.mk hC2; have B2 := Aside0.mk (below_then B1.out B1.out.size p1.below); clear p1 hC2)) | (go_at_call 10; go_must (refine (RefDecodeP w2 A n c b (Kd.C_below HC.out B2.out) HB.out HN.out hc hl l 0 (.inl ⟨HD.out, rfl⟩)).mono ?_; rintro e w3 ⟨v3, rfl, p1⟩; obtain ⟨A3, c3, rfl, hc3, hC3⟩ := p1.reads 0 rfl; rw [← HQ.out] at hc3 hC3 ⊢; have C3 := Aside0.mk hC3; have C23 := Aside0.mk (Kd.C_below C2.out p1.below); have B3 := Aside0.mk (below_then B2.out B2.out.size p1.below); clear p1 hC3)) | (go_at_call 11; go_must (refine (SameP w3 A2 q c2 l C23.out HQ.out hc2 A3 q c3 l C3.out HQ.out hc3 true HS.out).mono ?_; rintro e w4 ⟨rfl, p1⟩; have C24 := Aside0.mk (Kd.C_below C23.out p1.below); have B4 := Aside0.mk (below_then B3.out B3.out.size p1.below); clear p1)) | (go_at_call 12; go_must (refine (EncOk w4 A2 q c2 l C24.out HQ.out hc2 HM.out HL.out).mono ?_; rintro e w5 ⟨v5, rfl, p1⟩; rw [HE.out] at p1; obtain ⟨A5, c5, rfl, hc5, hC5⟩ := p1.reads 0 rfl; rw [← HN.out] at hC5 ⊢; have B5 := Aside0.mk (below_then B4.out B4.out.size p1.below); have C25 := Aside0.mk (Kd.C_below C24.out p1.below); have hcv5 := Sx.reads_string (P := Try.prog) (c := c5) Try.underlying22 Try.underlying5 Try.underlying9 (rdint hC5); rw [← HST.out] at hcv5; have hcvb := Sx.reads_string (P := Try.prog) (c := c) Try.underlying22 Try.underlying5 Try.underlying9 (rdint (Kd.C_below HC.out B5.out)); rw [← HST.out] at hcvb; clear p1 hC5 hc5)) | (go_at_call 13; go_must (refine (MayP w5 A2 q c2 l C25.out HQ.out hc2 true HM.out).mono ?_; rintro e w6 ⟨rfl, p1⟩; have B6 := Aside0.mk (below_then B5.out B5.out.size p1); clear p1)))
    go_ret
    exact ⟨rfl, B6.out⟩
end Go.Proofs.Ytpebemljgeammab.Pi
