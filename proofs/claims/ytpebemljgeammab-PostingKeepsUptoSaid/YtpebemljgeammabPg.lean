/-
  tremalaw14.fixed: the chapter's examples.
-/
import Derived.Test.YtpebemljgeammabPf
import Derived.Test.YtpebemljgeammabSx
namespace Go.Proofs.Ytpebemljgeammab.Pg
set_option linter.unusedVariables false
set_option linter.unusedSimpArgs false
open Go.RowKit Go.Proofs.YtpebemljgeammabW.PrintWords Go.Proofs.Ytpebemljgeammab.Hp Go.Proofs.Ytpebemljgeammab.Fm Go.Proofs.Ytpebemljgeammab.Pn Go.Proofs.Ytpebemljgeammab.Pm Go.Proofs.Ytpebemljgeammab.Pw Go.Proofs.Ytpebemljgeammab.Pe Go.Proofs.Ytpebemljgeammab.Pd Go.Proofs.Ytpebemljgeammab.Pf Go.Proofs.Ytpebemljgeammab.PPostingKeeps

def ex : List S42 := [⟨3, [0, 2]⟩, ⟨5, [7]⟩]
theorem ex_may : may ex = true := by decide
theorem num_300 : num 300 = [172, 2] := by rw [num_big (by decide), num_small (by decide)]; rfl
theorem ex_enc : encL ex = [2, 3, 1, 0, 1, 1, 0, 7] := by simp [ex, encL, encF, encA, num_small]
theorem ex_dec : dec [2, 3, 1, 0, 1, 1, 0, 7] = some ex := by rfl
theorem nil_dec : dec [] = none := by rfl
theorem ex_byt : Byt [2, 3, 1, 0, 1, 1, 0, 7] := by intro x hx; simp at hx; omega
theorem ex_str : strOfNums [2, 3, 1, 0, 1, 1, 0, 7] = ⟨#[2, 3, 1, 0, 1, 1, 0, 7]⟩ := by rfl
theorem n300_str : strOfNums [172, 2] = ⟨#[172, 2]⟩ := by rfl
theorem int_lit {w : World} {b : Nat} {t : TypeId} {k : IntKind} {xs : List Int} (h : w.heap[b]? = some (.cells (nums k xs).toArray t (0, 0))) (hm : xs.length ≤ 9223372036854775807) : (Kd.int k).C w (some ⟨b, 0, none⟩) xs.length xs := rdC (lit_reads h rfl hm)
def exW (w : World) : World := ((w.alloc (.cells #[.int .i64 0, .int .i64 2] 3)).alloc (.cells #[.int .i64 7] 3)).alloc (.cells #[.int .i64 3, .slice (some ⟨w.heap.size, 0, none⟩) 2 2, .int .i64 5, .slice (some ⟨w.heap.size + 1, 0, none⟩) 1 1] TP)
theorem exW_below (w : World) : Below w.heap.size w (exW w) := by
  have h1 := below_alloc (Below.refl w.heap.size w) (.cells #[.int .i64 0, .int .i64 2] 3)
  have h2 := below_then h1 h1.size (below_alloc (Below.refl _ _) (.cells #[.int .i64 7] 3))
  exact below_then h2 h2.size (below_alloc (Below.refl _ _) _)
theorem ex_C (w : World) : k42.C (exW w) (some ⟨w.heap.size + 2, 0, none⟩) 2 ex := by
  have a1 : KI.C (w.alloc (.cells #[.int .i64 0, .int .i64 2] 3)) (some ⟨w.heap.size, 0, none⟩) 2 [0, 2] := int_lit (k := .i64) (xs := [0, 2]) (heap_alloc_new w _) (by decide)
  have a2 : KI.C ((w.alloc (.cells #[.int .i64 0, .int .i64 2] 3)).alloc (.cells #[.int .i64 7] 3)) (some ⟨w.heap.size + 1, 0, none⟩) 1 [7] := by
    have := int_lit (k := .i64) (xs := [7]) (heap_alloc_new (w.alloc (.cells #[.int .i64 0, .int .i64 2] 3)) (.cells #[.int .i64 7] 3)) (by decide)
    rw [World.size_alloc] at this
    exact this
  have b1 : KI.C (exW w) (some ⟨w.heap.size, 0, none⟩) 2 [0, 2] := Kd.C_below a1 (by
    have h2 := below_alloc (Below.refl _ (w.alloc (.cells #[.int .i64 0, .int .i64 2] 3))) (.cells #[.int .i64 7] 3)
    exact below_then h2 h2.size (below_alloc (Below.refl _ _) _))
  have b2 : KI.C (exW w) (some ⟨w.heap.size + 1, 0, none⟩) 1 [7] := Kd.C_below a2 (below_alloc (Below.refl _ _) _)
  have hh : (exW w).heap[w.heap.size + 2]? = some (.cells #[.int .i64 3, .slice (some ⟨w.heap.size, 0, none⟩) 2 2, .int .i64 5, .slice (some ⟨w.heap.size + 1, 0, none⟩) 1 1] TP (0, 0)) := by
    have := heap_alloc_new ((w.alloc (.cells #[.int .i64 0, .int .i64 2] 3)).alloc (.cells #[.int .i64 7] 3)) (.cells #[.int .i64 3, .slice (some ⟨w.heap.size, 0, none⟩) 2 2, .int .i64 5, .slice (some ⟨w.heap.size + 1, 0, none⟩) 1 1] TP)
    rw [World.size_alloc, World.size_alloc] at this
    exact this
  refine lit_C (xs := ex) hh (Reps.c2 ?_ (Reps.c2 ?_ (Reps.none _ _))) (by decide)
  · exact k42_mk (exW w) ⟨3, [0, 2]⟩ (Nat.le_refl _) b1
  · exact k42_mk (exW w) ⟨5, [7]⟩ (Nat.le_refl _) b2

set_option maxRecDepth 100000 in
set_option maxHeartbeats 4000000 in
theorem fixed (w : World) : Calls Try.prog 8 #[] w fun e w' => e = .returned (.bool true) ∧ Below w.heap.size w w' := by
  have hu42 := Try.underlying42
  have HX := Aside0.mk (ex_C w)
  have HBX := Aside0.mk (exW_below w)
  go_enter Try.func8, Try.ntmps8
  go_wp2_with (first | (go_at_call 12; go_must (refine (EncOk (exW w) _ 2 2 ex HX.out rfl (by decide) ex_may (by rw [ex_enc]; decide)).mono ?_; rintro e w1 ⟨v1, rfl, p1⟩; rw [ex_enc] at p1; obtain ⟨A1, c1, rfl, hc1, hC1⟩ : ∃ A c, v1 = .slice A 8 c ∧ 8 ≤ c ∧ KB.C w1 A 8 [2, 3, 1, 0, 1, 1, 0, 7] := p1.reads 0 rfl; have F1 := Aside0.mk (And.intro hC1 (Kd.C_below HX.out p1.below)); have B1 := Aside0.mk (below_then HBX.out HBX.out.size p1.below); clear p1 hC1)))
  have HC1 := Aside0.mk hc1
  clear hc1
  go_wp2_with (first | (go_at_call 9; go_must (refine (DecodeP w1 A1 8 c1 _ F1.out.1 ex_byt rfl HC1.out (by decide) ex 0 (.inl ⟨ex_dec, rfl⟩)).mono ?_; rintro e w2 ⟨v2, rfl, p1⟩; obtain ⟨A2, c2, rfl, -⟩ : ∃ A c, v2 = .slice A 2 c ∧ True := (by obtain ⟨A, c, h, -, -⟩ := p1.reads 0 rfl; exact ⟨A, c, h, trivial⟩); have F2 := Aside0.mk (And.intro (Kd.C_below F1.out.1 p1.below) (Kd.C_below F1.out.2 p1.below)); have B2 := Aside0.mk (below_then B1.out B1.out.size p1.below); clear p1)))
  have l1 := Aside0.mk (int_lit (k := .u8) (xs := [172, 2]) (heap_alloc_new w2 (.cells #[.int .u8 172, .int .u8 2] 5)) (by decide))
  have g1 := Aside0.mk (below_alloc (Below.refl w2.heap.size w2) (.cells #[.int .u8 172, .int .u8 2] 5))
  go_wp2_with (first | (go_at_call 15; have t0 := l1.out; go_must (refine (ReadP _ _ 2 2 [172, 2] t0 (by intro x hx; simp at hx; omega) rfl (by decide) (by decide) 300 2 rfl).mono ?_; rintro e w3 ⟨rfl, p1⟩; have p2 := below_then g1.out g1.out.size p1.below; have F3 := Aside0.mk (And.intro (Kd.C_below F2.out.1 p2) (Kd.C_below F2.out.2 p2)); have B3 := Aside0.mk (below_then B2.out B2.out.size p2); clear p1 p2 l1 t0 g1)))
  have l2 := Aside0.mk (int_lit (k := .u8) (xs := [128, 0]) (heap_alloc_new w3 (.cells #[.int .u8 128, .int .u8 0] 5)) (by decide))
  have g2 := Aside0.mk (below_alloc (Below.refl w3.heap.size w3) (.cells #[.int .u8 128, .int .u8 0] 5))
  go_wp2_with (first | (go_at_call 15; have t0 := l2.out; go_must (refine (ReadP _ _ 2 2 [128, 0] t0 (by intro x hx; simp at hx; omega) rfl (by decide) (by decide) 0 0 rfl).mono ?_; rintro e w4 ⟨rfl, p1⟩; have p2 := below_then g2.out g2.out.size p1.below; have F4 := Aside0.mk (And.intro (Kd.C_below F3.out.1 p2) (Kd.C_below F3.out.2 p2)); have B4 := Aside0.mk (below_then B3.out B3.out.size p2); clear p1 p2 l2 t0 g2)))
  have SE := Aside0.mk ex_str
  have SN := Aside0.mk n300_str
  go_wp2_with (first | (go_at_call 9; go_must (refine (DecodeP w4 none 0 0 [] (Kd.C_nil _ _) (by intro x hx; cases hx) rfl (Nat.le_refl _) (by decide) [] 2 (.inr ⟨nil_dec, rfl, rfl⟩)).mono ?_; rintro e w5 ⟨v5, rfl, p1⟩; obtain ⟨A5, c5, rfl, -, -⟩ := p1.reads 0 rfl; have F5 := Aside0.mk (And.intro (Kd.C_below F4.out.1 p1.below) (Kd.C_below F4.out.2 p1.below)); have B5 := Aside0.mk (below_then B4.out B4.out.size p1.below); have hcv := Sx.reads_string (P := Try.prog) (c := c1) Try.underlying22 Try.underlying5 Try.underlying9 (rdint F5.out.1); rw [SE.out] at hcv; clear p1)) | (go_at_call 14; go_must (refine (NumberP w5 none 0 0 [] (Kd.C_nil _ _) rfl (Nat.le_refl _) 300 (by decide) (by rw [num_300]; decide)).mono ?_; rintro e w6 ⟨v6, rfl, p1⟩; rw [num_300] at p1; obtain ⟨A6, c6, rfl, hc6, hC6⟩ : ∃ A c, v6 = .slice A 2 c ∧ 2 ≤ c ∧ KB.C w6 A 2 [172, 2] := p1.reads 0 rfl; have F6 := Aside0.mk (Kd.C_below F5.out.2 p1.below); have B6 := Aside0.mk (below_then B5.out B5.out.size p1.below); have hcv6 := Sx.reads_string (P := Try.prog) (c := c6) Try.underlying22 Try.underlying5 Try.underlying9 (rdint hC6); rw [SN.out] at hcv6; clear p1 hcv hC6 hc6)) | (go_at_call 13; go_must (refine (MayP w6 _ 2 2 ex F6.out rfl (by decide) true ex_may).mono ?_; rintro e w7 ⟨rfl, p1⟩; have B7 := Aside0.mk (below_then B6.out B6.out.size p1); clear p1)))
  go_ret
  exact ⟨rfl, B7.out⟩
end Go.Proofs.Ytpebemljgeammab.Pg
