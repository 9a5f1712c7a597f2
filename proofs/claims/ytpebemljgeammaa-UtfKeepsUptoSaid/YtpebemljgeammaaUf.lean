/-
  utf.Decode.
-/
import Derived.Test.YtpebemljgeammaaUe
namespace Go.Proofs.Ytpebemljgeammaa.Ud
set_option linter.unusedVariables false
set_option linter.unusedSimpArgs false
open Go.RowKit Go.Proofs.YtpebemljgeammaaW.PrintWords Go.Proofs.Ytpebemljgeammaa.Hp Go.Proofs.Ytpebemljgeammaa.PUtfDecodes Go.Proofs.Ytpebemljgeammaa.Ux

theorem k72_KM {w w' : World} {base : Nat} {ok : Nat → Prop} (x : S72) (cs : List Value) (h : k72.K w x cs) : k72.M w' base ok x cs := by
  obtain rfl := k72_open h
  exact k72_mkM _ _ _ _

theorem full_len (b : List Int) : (full b).length ≤ b.length := by
  have := dc_len b 0
  unfold full rest1
  rw [List.length_append]
  split
  · simp; omega
  · rename_i h
    have : (dc b 0).2.1.length ≠ 0 := fun e => h (List.eq_nil_of_length_eq_zero e)
    simp; omega

def DecPost (w : World) (bs : List Int) (e : Ending) (w' : World) : Prop := ∃ A c, e = .returned (.slice A (full bs).length c) ∧ (full bs).length ≤ c ∧ Kd.R k72 TP w' w.heap.size (fun _ => True) (.slice A (full bs).length c) (full bs) ∧ Below w.heap.size w w'

set_option maxRecDepth 100000 in
set_option maxHeartbeats 2000000 in
theorem Decode (w : World) (A : Option Addr) (n c : Nat) (bs : List Int) (hb : ReadsInt w .u8 A n bs) (hB : Bytes bs) (hlen : n ≤ 1000000000) :
    Calls Try.prog 42 #[.slice A n c] w (DecPost w bs) := by
  have hbn := hb.1
  have HB := Aside0.mk hb
  have HBY := Aside0.mk hB
  have HBN := Aside0.mk hbn
  clear hb hB hbn
  go_enter Try.func42, Try.ntmps42
  go_wp2_with (first | (go_at_call 48; refine (New w).mono ?_; rintro e w1 ⟨g, rfl, p0, p1, p2⟩; have P0 := Aside0.mk p0; have P1 := Aside0.mk p1; have P2 := Aside0.mk p2; clear p0 p1 p2) | (go_at_call 49; go_must (refine (Write w1 g w.heap.size [] 0 _ A n c bs P1.out (HB.out.below P2.out) HBY.out (by simp; omega) (by omega)).mono ?_; rintro e w2 ⟨lv, M, rfl, q1, q2, q3, q4⟩; have Q1 := Aside0.mk q1; have Q2 := Aside0.mk q2; have Q3 := Aside0.mk q3; have Q4 := Aside0.mk q4; clear q1 q2 q3 q4)) | (go_at_call 51; go_must (refine (Close w2 g w.heap.size _ _ _ Q3.out).mono ?_; rintro e w3 ⟨lv2, rfl, r1, r2, r3⟩; obtain ⟨A2, c2, rfl, hc2, hC2⟩ := Kd.R_reads r1; have R1 := Aside0.mk hC2; have R3 := Aside0.mk r3; clear r1 r2 r3 hC2)) | (at_builtin; go_must (refine Kd.R_append_rows k72 (Rr := k72.K w3) (w0 := w3) w.heap.size rfl (.tmp 7) (.tmp 9) 62 TP (.agg #[.int .i32 0, .int .i64 0, .int .i64 0]) 24 rfl Try.underlying62 info_P rfl (by decide) (by decide) lv (dc bs 0).1 (rest1 (dc bs 0).2.1 (dc bs 0).2.2) A2 _ c2 (fun _ => True) (fun _ => False) rfl rfl ?ho R1.out (fun x cs h => k72_KM x cs h) (fun _ h => h.elim) (fun _ _ => trivial) (Below.refl _ _) ?hb ?hl ?hh)))
  case ho =>
    have hg := P1.out.lt.1
    have h1 := Kd.R_bound Q2.out
    exact Kd.R_mono (Kd.R_lower (R_chg h1 R3.out (fun k hk he => by have := hk.2.1; omega)) P2.out.size) (fun _ _ => trivial)
  case hb => have h1 := P2.out.size; have h2 := Q4.out.size; have h3 := R3.out.size; omega
  case hl =>
    have h1 := dc_len bs 0
    have h2 := dc_rest bs 0
    have h3 : (rest1 (dc bs 0).2.1 (dc bs 0).2.2).length ≤ 1 := by unfold rest1; split <;> simp
    have h4 := HBN.out
    omega
  case hh =>
    intro v1 w4 hR hb4 hg4 hat4
    have hfull : (dc bs 0).1 ++ rest1 (dc bs 0).2.1 (dc bs 0).2.2 = full bs := rfl
    rw [hfull] at hR
    obtain ⟨A5, c5, rfl, hc5, hC5⟩ := Kd.R_reads hR
    have HR := Aside0.mk hR
    have HB4 := Aside0.mk hb4
    clear hR hb4 hg4 hat4 hC5 hfull
    have hL := HR.out
    obtain ⟨L, hLL⟩ : ∃ L, L = (full bs).length := ⟨_, rfl⟩
    rw [← hLL]
    have HLL := Aside0.mk hLL
    clear hLL hL
    go_wp2
    go_ret
    have e := HLL.out
    subst e
    refine ⟨A5, c5, rfl, hc5, HR.out, ?_⟩
    have b2 : Below w.heap.size w w2 := Q4.out.below_of P2.out (fun b hb => by rw [hb]; exact P0.out)
    have b3 : Below w.heap.size w w3 := R3.out.below_of b2 (fun b hb => by rw [hb]; exact P0.out)
    exact b3.trans HB4.out
end Go.Proofs.Ytpebemljgeammaa.Ud
