/-
  utf.Decoder as a thing among others; lemmas of decoding in chunks.
-/
import Derived.Test.YtpebemljgeammaaFm
import Derived.Test.YtpebemljgeammaaUh
namespace Go.Proofs.Ytpebemljgeammaa.Dc
set_option linter.unusedVariables false
set_option linter.unusedSimpArgs false
open Go.RowKit Go.Proofs.YtpebemljgeammaaW.PrintWords Go.Proofs.Ytpebemljgeammaa.Hp Go.Proofs.Ytpebemljgeammaa.Fm Go.Proofs.Ytpebemljgeammaa.PUtfDecodes Go.Proofs.Ytpebemljgeammaa.Ux Go.Proofs.Ytpebemljgeammaa.Ud

def decT (g base : Nat) (kept : List Int) (at_ : Int) (closed : Bool) : Th :=
  ⟨fun ok w => IsDec g base kept at_ closed ok w, fun h hm => h.step hm, fun h => h.bound⟩
section
variable {w0 w w' : World} {L : List Th}
theorem NewS (h : Sep w0 L w) : Calls Try.prog 48 #[] w fun e w' => ∃ g, e = .returned (.pointer (some ⟨g, 0, none⟩)) ∧ Sep w0 (L ++ [decT g w0.heap.size [] 0 false]) w' := by
  refine (New w).mono ?_
  rintro e w' ⟨g, rfl, hg, hd, hb⟩
  exact ⟨g, rfl, h.new (decT g w0.heap.size [] 0 false) (ok := fun b => b = g) (hd.lower h.below.size) (fun b hb => by rw [hb]; exact hg) hb⟩
theorem WriteS (h : Sep w0 L w) (i : Nat) {g : Nat} {kept : List Int} {at0 : Int} (hi : L[i]? = some (decT g w0.heap.size kept at0 false)) (A : Option Addr) (n c : Nat) (bs : List Int) (hb : ReadsInt w .u8 A n bs)
    (hB : Bytes (kept ++ bs)) (hlen : kept.length + n ≤ 1000000000) (hat : 0 ≤ at0 ∧ at0 ≤ 4000000000000000) :
    Calls Try.prog 49 #[.pointer (some ⟨g, 0, none⟩), .slice A n c] w fun e w' => ∃ A' c', e = .returned (.slice A' (dc (kept ++ bs) at0).1.length c') ∧
      Sep w0 (L.set i (decT g w0.heap.size (dc (kept ++ bs) at0).2.1 (dc (kept ++ bs) at0).2.2 false) ++ [rowT k72 TP w0.heap.size (.slice A' (dc (kept ++ bs) at0).1.length c') (dc (kept ++ bs) at0).1]) w' := by
  have hs := h.below.size
  obtain ⟨ok, h1, h2, h3⟩ := h.op2 i _ hi
  have h1' : IsDec g w0.heap.size kept at0 false ok w := h1
  refine (Write w g w0.heap.size kept at0 ok A n c bs h1' hb hB hlen hat).mono ?_
  rintro e w' ⟨lv, M, rfl, q1, q2, q3, q4⟩
  obtain ⟨A', c', rfl⟩ := Kd.R_slice q2
  refine ⟨A', c', rfl, h3 w' (decT _ _ _ _ _) (rowT _ _ _ _ _) (fun b => b = g ∨ M ≤ b) (fun b => b < M ∧ w.heap.size ≤ b) q3 (Kd.R_lower (Kd.R_mono (Kd.R_bound q2) (fun k hk => ⟨hk.1, hk.2.1⟩)) hs) ?_ (fun b hb => hb.2) ?_ q4⟩
  · intro b hb2
    rcases hb2 with rfl | hb2
    · exact .inl h1'.lt.2.2
    · exact .inr (Nat.le_trans q1 hb2)
  · intro b hb2 hb3
    have hgl := h1'.lt.1
    rcases hb2 with rfl | hb2 <;> omega
theorem CloseS (h : Sep w0 L w) (i : Nat) {g : Nat} {kept : List Int} {at0 : Int} (hi : L[i]? = some (decT g w0.heap.size kept at0 false)) :
    Calls Try.prog 51 #[.pointer (some ⟨g, 0, none⟩)] w fun e w' => ∃ A' c', e = .returned (.slice A' (rest1 kept at0).length c') ∧
      Sep w0 (L.set i (decT g w0.heap.size [] at0 true) ++ [rowT k72 TP w0.heap.size (.slice A' (rest1 kept at0).length c') (rest1 kept at0)]) w' := by
  have hs := h.below.size
  obtain ⟨ok, h1, h2, h3⟩ := h.op2 i _ hi
  have h1' : IsDec g w0.heap.size kept at0 false ok w := h1
  refine (Close w g w0.heap.size kept at0 ok h1').mono ?_
  rintro e w' ⟨lv, rfl, q1, q2, q3⟩
  obtain ⟨A', c', rfl⟩ := Kd.R_slice q1
  refine ⟨A', c', rfl, h3 w' (decT _ _ _ _ _) (rowT _ _ _ _ _) (fun b => b = g) (fun b => w.heap.size ≤ b) q2 (Kd.R_lower (Kd.R_mono (Kd.R_bound q1) (fun k hk => hk.2.1)) hs) ?_ (fun b hb => hb) ?_ (q3.mono (fun k _ hk => by rw [hk]; exact h1'.lt.2.2))⟩
  · intro b hb2
    rw [hb2]
    exact .inl h1'.lt.2.2
  · intro b hb2 hb3
    have hgl := h1'.lt.1
    omega
theorem PendS (h : Sep w0 L w) (i : Nat) {g : Nat} {kept : List Int} {at0 : Int} {cl : Bool} (hi : L[i]? = some (decT g w0.heap.size kept at0 cl)) :
    Calls Try.prog 50 #[.pointer (some ⟨g, 0, none⟩)] w fun e w' => e = .returned (.int .i64 kept.length) ∧ w = w' := by
  obtain ⟨ok, h1⟩ := h.one i _ hi
  exact Pending w g w0.heap.size kept at0 cl ok h1
theorem CloseClosedS (h : Sep w0 L w) (i : Nat) {g : Nat} {kept : List Int} {at0 : Int} (hi : L[i]? = some (decT g w0.heap.size kept at0 true)) :
    Calls Try.prog 51 #[.pointer (some ⟨g, 0, none⟩)] w fun e w' => e = .returned (.slice none 0 0) ∧ w = w' := by
  obtain ⟨ok, h1⟩ := h.one i _ hi
  exact CloseClosed w g w0.heap.size kept at0 ok h1
theorem WriteClosedS (h : Sep w0 L w) (i : Nat) {g : Nat} {kept : List Int} {at0 : Int} (hi : L[i]? = some (decT g w0.heap.size kept at0 true)) (A : Option Addr) (n c : Nat) :
    Calls Try.prog 49 #[.pointer (some ⟨g, 0, none⟩), .slice A n c] w fun e w' => e = .returned (.slice none 0 0) ∧ w = w' := by
  obtain ⟨ok, h1⟩ := h.one i _ hi
  exact WriteClosed w g w0.heap.size kept at0 ok A n c h1
end

/-- What is kept back is the end of what came. -/
theorem dc_suffix (b : List Int) (p : Int) : ∃ k, (dc b p).2.1 = b.drop k := by
  refine dc_ind (P := fun b p => ∃ k, (dc b p).2.1 = b.drop k) ?_ ?_ ?_ b p
  · intro p; exact ⟨0, rfl⟩
  · intro c t p h; rw [dc_cons, if_pos h]; exact ⟨0, rfl⟩
  · intro c t p h ih
    obtain ⟨k, hk⟩ := ih
    rw [dc_cons, if_neg (by simp [h])]
    exact ⟨_, by rw [hk, List.drop_drop]⟩
theorem dc_bytes {b : List Int} (h : Bytes b) (p : Int) : Bytes (dc b p).2.1 := by
  obtain ⟨k, hk⟩ := dc_suffix b p
  rw [hk]
  exact bytes_drop h k
/-- Where it stands is behind the last that is told. -/
theorem dc_end (b : List Int) (p : Int) : ((dc b p).1 = [] → (dc b p).2.2 = p) ∧ ∀ x, (dc b p).1.getLast? = some x → x.f1 + x.f2 = (dc b p).2.2 := by
  refine dc_ind (P := fun b p => ((dc b p).1 = [] → (dc b p).2.2 = p) ∧ ∀ x, (dc b p).1.getLast? = some x → x.f1 + x.f2 = (dc b p).2.2) ?_ ?_ ?_ b p
  · intro p; simp [dc_nil]
  · intro c t p h; rw [dc_cons, if_pos h]; simp
  · intro c t p h ih
    rw [dc_cons, if_neg (by simp [h])]
    refine ⟨by simp, fun x hx => ?_⟩
    simp only at hx ⊢
    obtain ⟨l, hl⟩ : ∃ l, l = (dc ((c :: t).drop (one1 c t).2.1.toNat) (p + (one1 c t).2.1)).1 := ⟨_, rfl⟩
    rw [← hl] at hx ih
    cases l with
    | nil => simp at hx; rw [← hx, ih.1 rfl]
    | cons y l => rw [List.getLast?_cons_cons] at hx; exact ih.2 x hx
end Go.Proofs.Ytpebemljgeammaa.Dc
