/-
  UtfResyncs.
-/
import Derived.Test.YtpebemljgeammaaUh
namespace Go.Proofs.Ytpebemljgeammaa.Ur
set_option linter.unusedVariables false
set_option linter.unusedSimpArgs false
open Go.RowKit Go.Proofs.YtpebemljgeammaaW.PrintWords Go.Proofs.Ytpebemljgeammaa.Hp Go.Proofs.Ytpebemljgeammaa.PUtfDecodes Go.Proofs.Ytpebemljgeammaa.Ux Go.Proofs.Ytpebemljgeammaa.Ud Go.Proofs.Ytpebemljgeammaa.Uh

theorem bnd_lo {c : Int} {bs : List (Int × Int)} (h : bnd c = some bs) : ∀ b, b ∈ bs → 128 ≤ b.1 ∧ b.2 ≤ 191 := by
  unfold bnd at h
  split at h
  · cases h; simp
  · split at h
    · cases h
    · split at h
      · cases h; simp
      · split at h
        · cases h
          intro b hb
          simp at hb
          rcases hb with rfl | rfl
          · constructor <;> simp only <;> split <;> omega
          · simp
        · cases h
          intro b hb
          simp at hb
          rcases hb with rfl | rfl
          · constructor <;> simp only <;> split <;> omega
          · simp
theorem cont_cut : ∀ (bs : List (Int × Int)) (t : List Int) (r i : Int) (c : Int) (s : List Int), (∀ b, b ∈ bs → 128 ≤ b.1) → c < 128 → (cont bs t r i).2.2 = true → cont bs (t ++ c :: s) r i = (65533, i + t.length, false)
  | [], t, r, i, c, s, _, _, h => by simp [cont] at h
  | (lo, hi) :: bs, [], r, i, c, s, hb, hc, h => by
    have := hb (lo, hi) List.mem_cons_self
    simp only [List.nil_append, cont]
    rw [if_pos (.inl (by simp only at this; omega))]
    simp
  | (lo, hi) :: bs, x :: t, r, i, c, s, hb, hc, h => by
    simp only [cont, List.cons_append] at h ⊢
    split
    · rename_i hx; rw [if_pos hx] at h; simp at h
    · rename_i hx
      rw [if_neg hx] at h
      rw [cont_cut bs t _ _ c s (fun b hb2 => hb b (List.mem_cons_of_mem _ hb2)) hc h]
      simp only [List.length_cons]
      congr 2
      push_cast; omega
theorem one1_cut (x : Int) (t : List Int) (c : Int) (s : List Int) (hc : c < 128) (h : (one1 x t).2.2 = true) : one1 x (t ++ c :: s) = (65533, (1 : Int) + (t.length : Int), false) := by
  unfold one1 at h ⊢
  cases hb : bnd x with
  | none => rw [hb] at h; simp at h
  | some bs =>
    rw [hb] at h
    exact cont_cut bs t _ _ c s (fun b hb2 => (bnd_lo hb b hb2).1) hc h
theorem one1_ascii (c : Int) (hc : c < 128) (t : List Int) : one1 c t = (c, 1, false) := by
  simp [one1, bnd, st, hc, cont]
theorem dc_ascii (c : Int) (hc : c < 128) (p : Int) : dc [c] p = ([(⟨c, p, 1⟩ : S72)], [], p + 1) := by
  rw [dc_cons, one1_ascii c hc]
  simp [dc_nil]
theorem dc_cut (r : List Int) (p : Int) (c : Int) (hc : c < 128) (hr : dc r p = ([], r, p)) : dc (r ++ [c]) p = (rest1 r p ++ [(⟨c, p + r.length, 1⟩ : S72)], [], p + r.length + 1) := by
  cases r with
  | nil => simp [dc_ascii c hc, rest1]
  | cons x t =>
    have hm : (one1 x t).2.2 = true := by
      rw [dc_cons] at hr
      split at hr
      · assumption
      · simp at hr
    rw [List.cons_append, dc_cons, one1_cut x t c [] hc hm]
    simp only [Bool.false_eq_true, if_false]
    have e : (x :: (t ++ [c])).drop ((1 : Int) + (t.length : Int)).toNat = [c] := by
      rw [show ((1 : Int) + (t.length : Int)).toNat = t.length + 1 by omega, ← List.cons_append]
      rw [List.drop_append_of_le_length (by simp)]
      simp
    rw [e, dc_ascii c hc]
    have e2 : (1 : Int) + (t.length : Int) = ((t.length + 1 : Nat) : Int) := by push_cast; omega
    simp [rest1, e2]
theorem full_snoc (b : List Int) (c : Int) (hc : c < 128) : full (b ++ [c]) = full b ++ [(⟨c, b.length, 1⟩ : S72)] := by
  have h1 := dc_rest b 0
  have h2 := dc_len b 0
  unfold full
  rw [dc_append, dc_cut _ _ c hc h1.2]
  simp only [List.append_assoc, rest1, if_true, List.append_nil]
  congr 2
  rw [show (dc b 0).2.2 + ((dc b 0).2.1.length : Int) = (b.length : Int) by omega]

theorem C_take {α : Type} {d : Kd α} {w : World} {A : Option Addr} {n m : Nat} {xs : List α} (h : d.C w A n xs) (hm : m ≤ n) : d.C w A m (xs.take m) := by
  refine ⟨by rw [List.length_take, h.1]; omega, by have := h.2.1; omega, fun hp => ?_⟩
  obtain ⟨ad, e, hc⟩ := h.2.2 (by omega)
  refine ⟨ad, e, fun j p hj => hc j p ?_⟩
  rw [List.getElem?_take] at hj
  split at hj
  · exact hj
  · cases hj

set_option maxRecDepth 100000 in
set_option maxHeartbeats 4000000 in
theorem resyncs (w : World) (A : Option Addr) (bs : List Int) (c : Nat) (hC : (Kd.int .u8).C w A bs.length bs) (hc : bs.length ≤ c) (hw : ∀ x, x ∈ bs → (Lit.int .u8 x).wf = true) (hb : Od.sumB (fun _ => 1) bs ≤ 1048576) (x : Int) (hx : (Lit.int .u8 x).wf = true) :
    Calls Try.prog 13 #[.slice A bs.length c, .int .u8 x] w fun e w' => e = .returned (.bool true) ∧ Below w.heap.size w w' := by
  have hB := wf_bytes hw
  have hl : bs.length ≤ 1048576 := Nat.le_trans (Od.sumB_len (fun _ => Nat.le_refl _) bs) hb
  have hxb : 0 ≤ x ∧ x ≤ 255 := by simpa [Lit.wf, IntKind.min, IntKind.max, IntKind.signed, IntKind.bits] using hx
  obtain ⟨y, hy⟩ : ∃ y, y = x % 128 := ⟨_, rfl⟩
  have hand : Go.bits .and .u8 x 127 = y := by rw [hy]; exact bits_mask .u8 8 (by decide) wraps_u8 7 (by decide) x hxb.1 (by omega)
  have hy0 : 0 ≤ y := by omega
  have hy1 : y < 128 := by omega
  have hfl := full_len bs
  have hsn := full_snoc bs y hy1
  have hB2 : Bytes (bs ++ [y]) := by
    intro z hz
    rcases List.mem_append.1 hz with hz | hz
    · exact hB z hz
    · rw [List.mem_singleton.1 hz]; omega
  have HC := Aside0.mk hC
  have HB := Aside0.mk hB
  have HB2 := Aside0.mk hB2
  have HSN := Aside0.mk hsn
  clear hC hw hb hB hy hx hxb hsn hB2
  go_enter Try.func13, Try.ntmps13
  go_wp2_with (first | (go_at_call 40; go_must (refine (Ug.fixed w).mono ?_; rintro e w1 ⟨rfl, p1⟩; have P1 := Aside0.mk p1; have TK := Aside0.mk p1; clear p1)) | (go_at_call 42; have t0 := TK.out; refine (Decode w1 A bs.length c bs (rdint (Kd.C_below HC.out P1.out)) HB.out (by omega)).mono ?_; rintro e w2 ⟨A2, c2, rfl, q1, q2, q3⟩; have Q1 := Aside0.mk q1; have Q2 := Aside0.mk q2; have Q3 := Aside0.mk q3; clear q1 q2 q3 t0 TK) | (at_builtin; have t0 := Q3.out; refine print_append_row (w0 := w2) w2.heap.size rfl (.tmp 14) (.tmp 15) 33 5 .u8 1 rfl Try.underlying33 info_8 (by decide) (.slice (some ⟨w2.heap.size, 0, none⟩) 0 0) [] bs A bs.length c rfl rfl ⟨rfl, .inr ⟨w2.heap.size, 0, #[], rfl, Nat.le_refl _, heap_alloc_new w2 _, Nat.le_refl _, by simp [maxLen], rfl, rfl⟩⟩ (((rdint (Kd.C_below HC.out P1.out)).below t0).below (below_alloc (Below.refl _ _) _)) (below_alloc (Below.refl _ _) _) (by simp) (by simp; omega) ?h1))
  case h1 =>
    intro v3 w3 hown3 hb3 hg3 hat3
    have O3 := Aside0.mk hown3
    have B3 := Aside0.mk hb3
    clear hown3 hb3 hg3 hat3
    go_wp2_with (at_builtin; refine print_append_num (w0 := w3) w2.heap.size rfl (.tmp 16) (.tmp 18) 33 5 .u8 1 rfl Try.underlying33 info_8 (by decide) v3 bs y rfl rfl (by simpa using O3.out) (Below.refl _ _) B3.out.size (by omega) ?h2)
    case h2 =>
      intro v4 w4 hown4 hb4 hg4 hat4
      obtain ⟨L, hL⟩ : ∃ L, L = (bs ++ [y]).length := ⟨_, rfl⟩
      have hown : w4.ownsRow w2.heap.size 5 1 v4 L (nums .u8 (bs ++ [y])) := by rw [hL, List.length_append, List.length_singleton]; exact hown4
      obtain ⟨A4, c4, rfl, hr4⟩ := own_reads hown
      have hLb : L ≤ 1048577 := by rw [hL]; simp; omega
      have R4 := Aside0.mk hr4
      have B4 := Aside0.mk (B3.out.trans (Below.mono hb4 (Nat.le_refl _)))
      clear hown4 hb4 hg4 hat4 hown hr4 hL
      go_wp2_with (first | (go_at_call 42; go_must (refine (Decode w4 A4 L c4 (bs ++ [y]) R4.out HB2.out (by omega)).mono ?_; rintro e w5 ⟨A5, c5, rfl, q1, q2, q3⟩; rw [HSN.out, List.length_append, List.length_singleton] at q1 q2; rw [HSN.out, List.length_append, List.length_singleton]; have S1 := Aside0.mk q1; have S2 := Aside0.mk q2; have S3 := Aside0.mk q3; have hS1 : (full bs).length ≤ c5 := (by omega); clear q1 q2 q3)) | (go_at_call 41; go_must (have e7 : (full bs ++ [(⟨y, bs.length, 1⟩ : S72)]).take (full bs).length = full bs := (by simp); have hC7 := C_take (m := (full bs).length) (Kd.R_reads' S2.out).2.2 (by first | (simp; done) | omega); rw [e7] at hC7; refine (Same w5 _ A2 c5 c2 (full bs) (full bs) rfl (by omega) hC7 (by omega) (Kd.C_below (Kd.R_reads' Q2.out).2.2 (Below.mono (B4.out.trans (Below.mono S3.out B4.out.size)) (Nat.le_refl _))) Q1.out).mono ?_; rintro e w6 ⟨rfl, p1⟩; obtain ⟨ad, e5, z0, z1, z2⟩ := Ug.pts_at (Kd.C_below (Kd.R_reads' S2.out).2.2 p1.below) (full bs).length (by first | (simp; done) | omega) (⟨y, bs.length, 1⟩ : S72) (by simp); subst e5; have P6 := Aside0.mk p1; clear p1 e7 hC7)))
      go_ret
      have b2 := below_then P1.out P1.out.size Q3.out
      have b4 := below_then b2 b2.size B4.out
      have b5 := below_then b4 b4.size S3.out
      have b6 := below_then b5 b5.size P6.out.below
      exact ⟨rfl, b6.alloc b6.size _⟩
end Go.Proofs.Ytpebemljgeammaa.Ur
