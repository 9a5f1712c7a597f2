/-
  tremaref01.Same and Decode as contracts; UtfDecodes.
-/
import Derived.Test.YtpebemljgeammaaUg
import Derived.Test.YtpebemljgeammaaPUtfDecodesx3
import Derived.Test.YtpebemljgeammaaOd
namespace Go.Proofs.Ytpebemljgeammaa.Uh
set_option linter.unusedVariables false
set_option linter.unusedSimpArgs false
open Go.RowKit Go.Proofs.YtpebemljgeammaaW.PrintWords Go.Proofs.Ytpebemljgeammaa.Hp Go.Proofs.Ytpebemljgeammaa.PUtfDecodes Go.Proofs.Ytpebemljgeammaa.Ux Go.Proofs.Ytpebemljgeammaa.Ud

theorem same_loop (l : List S72) (hl : l.length ≤ 1000000000) (d : Nat) : ∀ (i k : Nat), l.length - i = d → i ≤ l.length → d < k → tremaref01_Same.l0 k l l i = some true := by
  induction d with
  | zero =>
    intro i k hd hi hk
    obtain ⟨k, rfl⟩ : ∃ m, k = m + 1 := ⟨k - 1, by omega⟩
    simp only [tremaref01_Same.l0]
    rw [if_neg (by omega)]
  | succ d ih =>
    intro i k hd hi hk
    obtain ⟨k, rfl⟩ : ∃ m, k = m + 1 := ⟨k - 1, by omega⟩
    have hw : wrap64 ((i : Int) + 1) = ((i + 1 : Nat) : Int) := by unfold wrap64; omega
    simp only [tremaref01_Same.l0]
    rw [if_pos (by omega), if_pos (by omega), if_pos (by omega), if_neg (by simp), hw]
    exact ih (i + 1) k (by omega) (by omega) (by omega)
theorem same_refl (l : List S72) (hl : l.length ≤ 1000000000) : tremaref01_Same.f (l.length + 1) l l = some true := by
  unfold tremaref01_Same.f
  rw [if_pos rfl]
  exact same_loop l hl l.length 0 _ (by omega) (by omega) (by omega)
theorem Same (w : World) (A B : Option Addr) (c d : Nat) (l m : List S72) (he : l = m) (hl : l.length ≤ 1000000000) (h1 : Kd.C k72 w A l.length l) (hc : l.length ≤ c) (h2 : Kd.C k72 w B m.length m) (hd : m.length ≤ d) :
    Calls Try.prog 41 #[.slice A l.length c, .slice B m.length d] w fun e w' => e = .returned (.bool true) ∧ Drawn0 w w' := by
  subst he
  exact tremaref01_Same.calls (l.length + 1) A c l B d l true w h1 hc h2 hd (same_refl l hl)

/-- The reference's Decode, all of it or what is sure. -/
def refd (bs : List Int) (op : Bool) : List S72 := (dc bs 0).1 ++ (if op = true then [] else rest1 (dc bs 0).2.1 (dc bs 0).2.2)
theorem RefDecode (w : World) (A : Option Addr) (c : Nat) (bs : List Int) (op : Bool) (hb : Kd.C (Kd.int .u8) w A bs.length bs) (hc : bs.length ≤ c) (hB : Bytes bs) (hl : bs.length ≤ 1000000000) :
    Calls Try.prog 43 #[.slice A bs.length c, .bool op] w fun e w' => ∃ A' c', e = .returned (.slice A' (refd bs op).length c') ∧ (refd bs op).length ≤ c' ∧ Kd.R k72 TP w' w.heap.size (fun _ => True) (.slice A' (refd bs op).length c') (refd bs op) ∧ Below w.heap.size w w' := by
  refine (tremaref01_Decode.calls (bs.length + 31) A c bs op (refd bs op) w hb hc (Ref_dec bs hB hl op)).mono ?_
  rintro e w' ⟨v, rfl, h1, h2⟩
  obtain ⟨A', c', rfl, h3, h4⟩ := Kd.R_reads h1
  exact ⟨A', c', rfl, h3, h1, h2⟩

theorem wf_bytes {xs : List Int} (h : ∀ x, x ∈ xs → (Lit.int .u8 x).wf = true) : Bytes xs := fun x hx => by
  have := h x hx
  simpa [Lit.wf, IntKind.min, IntKind.max, IntKind.signed, IntKind.bits] using this

set_option maxRecDepth 100000 in
set_option maxHeartbeats 2000000 in
theorem decodes (w : World) (A : Option Addr) (bs : List Int) (c : Nat) (hC : (Kd.int .u8).C w A bs.length bs) (hc : bs.length ≤ c) (hw : ∀ x, x ∈ bs → (Lit.int .u8 x).wf = true) (hb : Od.sumB (fun _ => 1) bs ≤ 1048576) :
    Calls Try.prog 7 #[.slice A bs.length c] w fun e w' => e = .returned (.bool true) ∧ Below w.heap.size w w' := by
  have hB := wf_bytes hw
  have hl : bs.length ≤ 1048576 := Nat.le_trans (Od.sumB_len (fun _ => Nat.le_refl _) bs) hb
  have he : full bs = refd bs false := rfl
  have hfl := full_len bs
  have HC := Aside0.mk hC
  have HB := Aside0.mk hB
  have HE := Aside0.mk he
  clear hC hw hb hB he
  go_enter Try.func7, Try.ntmps7
  go_wp2_with (first | (go_at_call 40; go_must (refine (Ug.fixed w).mono ?_; rintro e w1 ⟨rfl, p1⟩; have P1 := Aside0.mk p1; clear p1)) | (go_at_call 42; go_must (refine (Decode w1 A bs.length c bs (rdint (Kd.C_below HC.out P1.out)) HB.out (by omega)).mono ?_; rintro e w2 ⟨A2, c2, rfl, q1, q2, q3⟩; have Q1 := Aside0.mk q1; have Q2 := Aside0.mk q2; have Q3 := Aside0.mk q3; clear q1 q2 q3)) | (go_at_call 43; go_must (refine (RefDecode w2 A c bs false (Kd.C_below (Kd.C_below HC.out P1.out) (Below.mono Q3.out (by omega))) hc HB.out (by omega)).mono ?_; rintro e w3 ⟨A3, c3, rfl, q1, q2, q3⟩; have R1 := Aside0.mk q1; have R2 := Aside0.mk q2; have R3 := Aside0.mk q3; clear q1 q2 q3)) | (go_at_call 41; go_must (refine (Same w3 A2 A3 c2 c3 (full bs) (refd bs false) HE.out (by omega) (Kd.C_below (Kd.R_reads' Q2.out).2.2 R3.out) Q1.out (Kd.R_reads' R2.out).2.2 R1.out).mono ?_; rintro e w4 ⟨rfl, p1⟩; have P4 := Aside0.mk p1; clear p1)))
  go_ret
  have b2 := below_then P1.out P1.out.size Q3.out
  have b3 := below_then b2 b2.size R3.out
  exact ⟨rfl, below_then b3 b3.size P4.out.below⟩
end Go.Proofs.Ytpebemljgeammaa.Uh
