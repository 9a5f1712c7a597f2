/-
  tremalaw01.fixed: the chapter's examples hold.
-/
import Derived.Test.YtpebemljgeammaaUf
import Derived.Test.YtpebemljgeammaaPUtfDecodesx1
namespace Go.Proofs.Ytpebemljgeammaa.Ug
set_option linter.unusedVariables false
set_option linter.unusedSimpArgs false
open Go.RowKit Go.Proofs.YtpebemljgeammaaW.PrintWords Go.Proofs.Ytpebemljgeammaa.Hp Go.Proofs.Ytpebemljgeammaa.PUtfDecodes Go.Proofs.Ytpebemljgeammaa.Ux Go.Proofs.Ytpebemljgeammaa.Ud
attribute [local go_sem high] eqA72

def ex1 : List S72 := [⟨65, 0, 1⟩, ⟨233, 1, 2⟩, ⟨65533, 3, 1⟩, ⟨65, 4, 1⟩]
theorem full1 : full [65, 195, 169, 226, 65] = ex1 := by kernel_rfl
theorem dc1 : dc ([] ++ [226, 130]) 0 = ([], [226, 130], 0) := by kernel_rfl
theorem dc2 : dc ([226, 130] ++ [172]) 0 = ([(⟨8364, 0, 3⟩ : S72)], [], 3) := by kernel_rfl
theorem enc1 : utf_Encode.f 10 [55296, 65] = some [239, 191, 189, 65] := by kernel_rfl

theorem Bytes_dec {l : List Int} (h : l.all (fun x => decide (0 ≤ x) && decide (x ≤ 255)) = true) : Bytes l := fun x hx => by
  have := List.all_eq_true.1 h x hx
  simpa using this

theorem decode1 (w : World) (A : Option Addr) (c : Nat) (hb : ReadsInt w .u8 A 5 [65, 195, 169, 226, 65]) :
    Calls Try.prog 42 #[.slice A 5 c] w fun e w' => ∃ A c, e = .returned (.slice A 4 c) ∧ Kd.C k72 w' A 4 ex1 ∧ Below w.heap.size w w' := by
  refine (Decode w A 5 c _ hb (Bytes_dec (by decide)) (by omega)).mono ?_
  rintro e w' ⟨A', c', rfl, h1, h2, h3⟩
  rw [full1] at h2 ⊢
  exact ⟨A', c', rfl, (Kd.R_reads' h2).2.2, h3⟩

theorem write1 (w : World) (g base : Nat) (ok : Nat → Prop) (A : Option Addr) (c : Nat) (h : IsDec g base [] 0 false ok w) (hb : ReadsInt w .u8 A 2 [226, 130]) :
    Calls Try.prog 49 #[.pointer (some ⟨g, 0, none⟩), .slice A 2 c] w fun e w' => ∃ A M c, e = .returned (.slice A 0 c) ∧ w.heap.size ≤ M ∧ IsDec g base [226, 130] 0 false (fun b => b = g ∨ M ≤ b) w' ∧ Chg ok w w' := by
  refine (Write w g base [] 0 ok A 2 c _ h hb (Bytes_dec (by decide)) (by simp) (by omega)).mono ?_
  rintro e w' ⟨lv, M, rfl, h1, h2, h3, h4⟩
  rw [dc1] at h2 h3
  obtain ⟨A', c', rfl⟩ := Kd.R_slice h2
  exact ⟨A', M, c', rfl, h1, h3, h4⟩
theorem write2 (w : World) (g base : Nat) (ok : Nat → Prop) (A : Option Addr) (c : Nat) (h : IsDec g base [226, 130] 0 false ok w) (hb : ReadsInt w .u8 A 1 [172]) :
    Calls Try.prog 49 #[.pointer (some ⟨g, 0, none⟩), .slice A 1 c] w fun e w' => ∃ A M c, e = .returned (.slice A 1 c) ∧ w.heap.size ≤ M ∧ Kd.R k72 TP w' w.heap.size (fun b => b < M) (.slice A 1 c) [(⟨8364, 0, 3⟩ : S72)] ∧ IsDec g base [] 3 false (fun b => b = g ∨ M ≤ b) w' ∧ Chg ok w w' := by
  refine (Write w g base [226, 130] 0 ok A 1 c _ h hb (Bytes_dec (by decide)) (by simp) (by omega)).mono ?_
  rintro e w' ⟨lv, M, rfl, h1, h2, h3, h4⟩
  rw [dc2] at h2 h3
  obtain ⟨A', c', rfl⟩ := Kd.R_slice h2
  exact ⟨A', M, c', rfl, h1, h2, h3, h4⟩
theorem close1 (w : World) (g base : Nat) (ok : Nat → Prop) (h : IsDec g base [] 3 false ok w) :
    Calls Try.prog 51 #[.pointer (some ⟨g, 0, none⟩)] w fun e w' => ∃ A c, e = .returned (.slice A 0 c) ∧ Chg (fun b => b = g) w w' := by
  refine (Close w g base [] 3 ok h).mono ?_
  rintro e w' ⟨lv, rfl, h1, h2, h3⟩
  obtain ⟨A', c', rfl⟩ := Kd.R_slice h1
  exact ⟨A', c', rfl, h3⟩
theorem encode1 (w : World) (A : Option Addr) (c : Nat) (hb : (Kd.int .i32).C w A 2 [55296, 65]) (hc : 2 ≤ c) :
    Calls Try.prog 46 #[.slice A 2 c] w fun e w' => ∃ v, e = .returned v ∧ (convert 33 9 v).run Try.prog w' = .ok (.string ⟨#[239, 191, 189, 65]⟩) w' ∧ Below w.heap.size w w' := by
  refine (utf_Encode.calls 10 A c [55296, 65] _ w hb hc enc1).mono ?_
  rintro e w' ⟨v, rfl, h1, h2⟩
  refine ⟨v, rfl, ?_, h2⟩
  exact own_string (P := Try.prog) Try.underlying33 Try.underlying5 Try.underlying9 (Kd.own_of_R h1)

theorem pts_at {w : World} {A : Option Addr} {n : Nat} {l : List S72} (h : Kd.C k72 w A n l) (j : Nat) (hj : j < n) (p : S72) (hp : l[j]? = some p) :
    ∃ ad, A = some ad ∧ w.cell? (ad.add (j * 3)) = some (.int .i32 p.f0) ∧ w.cell? ⟨(ad.add (j * 3)).block, (ad.add (j * 3)).off + 1, none⟩ = some (.int .i64 p.f1) ∧ w.cell? ⟨(ad.add (j * 3)).block, (ad.add (j * 3)).off + 2, none⟩ = some (.int .i64 p.f2) := by
  have := at_T72 h (j : Int) (by omega) (by omega)
  have e : rd_T72 l (j : Int) = p := by simp [rd_T72, List.getD_eq_getElem?_getD, hp]
  rw [e, Int.toNat_natCast] at this
  exact this

set_option maxRecDepth 100000 in
set_option maxHeartbeats 4000000 in
theorem fixed (w : World) : Calls Try.prog 40 #[] w fun e w' => e = .returned (.bool true) ∧ Below w.heap.size w w' := by
  have l1 := Aside0.mk (lit_reads (k := .u8) (xs := [65, 195, 169, 226, 65]) (heap_alloc_new w (.cells #[.int .u8 65, .int .u8 195, .int .u8 169, .int .u8 226, .int .u8 65] 5)) rfl (by decide))
  have hu72 := Try.underlying72
  go_enter Try.func40, Try.ntmps40
  go_wp2_with (first | (go_at_call 42; go_must (refine (decode1 _ _ _ l1.out).mono ?_; rintro e w1 ⟨A, c, rfl, p1, p2⟩; have P1 := Aside0.mk p1; have P2 := Aside0.mk p2; clear p1 p2)) | (go_at_call 48; go_must (refine (New w1).mono ?_; rintro e w2 ⟨g, rfl, q0, q1, q2⟩; have Q0 := Aside0.mk q0; have Q1 := Aside0.mk q1; have Q2 := Aside0.mk q2; clear q0 q1 q2; obtain ⟨a1, e1, x0, x1, x2⟩ := pts_at (Kd.C_below P1.out Q2.out) 1 (by decide) _ rfl; obtain ⟨a2, e2, y0, y1, y2⟩ := pts_at (Kd.C_below P1.out Q2.out) 2 (by decide) _ rfl; subst e1; cases e2; simp [Addr.add] at x0 x1 x2 y0 y1 y2)))
  have l2 := Aside0.mk (lit_reads (k := .u8) (xs := [226, 130]) (heap_alloc_new w2 (.cells #[.int .u8 226, .int .u8 130] 5)) rfl (by decide))
  have D2 := Aside0.mk (Q1.out.below (below_alloc (Below.refl _ _) (.cells #[.int .u8 226, .int .u8 130] 5)))
  clear x0 x1 x2 y0 y1 y2
  go_wp2_with (go_at_call 49; have t0 := l2.out; refine (write1 _ g w1.heap.size _ _ _ D2.out t0).mono ?_; rintro e w3 ⟨A3, M3, c3, rfl, p1, p2, p3⟩; have P3 := Aside0.mk p1; have D3 := Aside0.mk p2; have C3 := Aside0.mk p3; clear p1 p2 p3 l2 t0)
  go_wp2_with (first | (go_at_call 50; go_must (refine (Pending w3 g w1.heap.size _ _ _ _ D3.out).mono ?_; rintro e w4 ⟨rfl, rfl⟩)))
  have l3 := Aside0.mk (lit_reads (k := .u8) (xs := [172]) (heap_alloc_new w3 (.cells #[.int .u8 172] 5)) rfl (by decide))
  have D4 := Aside0.mk (D3.out.below (below_alloc (Below.refl _ _) (.cells #[.int .u8 172] 5)))
  go_wp2_with (go_at_call 49; have t0 := l3.out; refine (write2 _ g w1.heap.size _ _ _ D4.out t0).mono ?_; rintro e w5 ⟨A5, M5, c5, rfl, p1, p2, p3, p4⟩; obtain ⟨a5, e5, z0, z1, z2⟩ := pts_at (Kd.R_reads' p2).2.2 0 (by decide) _ rfl; subst e5; simp [Addr.add] at z0 z1 z2; have D5 := Aside0.mk p3; have C5 := Aside0.mk p4; have P5 := Aside0.mk p1; clear p1 p2 p3 p4 l3 t0)
  go_wp2_with (go_at_call 51; have t0 := D5.out; refine (close1 _ g w1.heap.size _ t0).mono ?_; rintro e w6 ⟨A6, c6, rfl, p1⟩; have C6 := Aside0.mk p1; clear p1 t0)
  have l4 := Aside0.mk (rdC (lit_reads (k := .i32) (xs := [55296, 65]) (heap_alloc_new w6 (.cells #[.int .i32 55296, .int .i32 65] 21)) rfl (by decide)))
  go_wp2_with (first | (go_at_call 46; go_must (refine (encode1 _ _ _ l4.out (by decide)).mono ?_; rintro e w7 ⟨v, rfl, hcv, p1⟩; have B7 := Aside0.mk p1; clear p1)) | (go_at_call 44; have t0 := l4; refine (utf_Valid.calls 65 true _ (by rfl)).mono ?_; rintro e w8 ⟨rfl, p1⟩; have B8 := Aside0.mk p1; clear p1 t0 l4 hcv))
  go_wp2_with (go_at_call 44; refine (utf_Valid.calls 55296 false _ (by rfl)).mono ?_; rintro e w9 ⟨rfl, p1⟩; have B9 := Aside0.mk p1; clear p1)
  go_ret
  have b1 := (below_alloc (Below.refl w.heap.size w) (.cells #[.int .u8 65, .int .u8 195, .int .u8 169, .int .u8 226, .int .u8 65] 5))
  have b2 := below_then (below_then b1 b1.size P2.out) (below_then b1 b1.size P2.out).size Q2.out
  have hg : w.heap.size ≤ g := Nat.le_trans (below_then b1 b1.size P2.out).size Q0.out
  have b3 := C3.out.below_of (b2.alloc b2.size _) (fun b hb => by rw [hb]; exact hg)
  have b5 := C5.out.below_of (b3.alloc b3.size _) (fun b hb => by
    rcases hb with hb | hb
    · rw [hb]; exact hg
    · have := P3.out; have := b2.size; rw [World.size_alloc] at *; omega)
  have b6 := C6.out.below_of b5 (fun b hb => by rw [hb]; exact hg)
  have b7 := below_then (b6.alloc b6.size _) (b6.alloc b6.size _).size B7.out
  have b8 := below_then b7 b7.size B8.out.below
  exact ⟨rfl, below_then b8 b8.size B9.out.below⟩
end Go.Proofs.Ytpebemljgeammaa.Ug
