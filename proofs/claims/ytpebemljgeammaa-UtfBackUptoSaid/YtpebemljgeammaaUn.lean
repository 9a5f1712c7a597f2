/-
  UtfEncodes.
-/
import Derived.Test.YtpebemljgeammaaEn
import Derived.Test.YtpebemljgeammaaUg
import Derived.Test.YtpebemljgeammaaSn
import Derived.Deep.RegionWith
namespace Go.Proofs.Ytpebemljgeammaa.Un
set_option linter.unusedVariables false
set_option linter.unusedSimpArgs false
open Go.RowKit Go.Proofs.YtpebemljgeammaaW.PrintWords Go.Proofs.Ytpebemljgeammaa.Hp Go.Proofs.Ytpebemljgeammaa.En

abbrev KB : Kd Int := Kd.int .u8
abbrev KI : Kd Int := Kd.int .i32
/-- The bytes as a string, wherever what was made stands. -/
def Strs (w : World) (v : Value) (s : ByteArray) : Prop := ∀ W : World, Below w.heap.size w W → (convert 33 9 v).run Try.prog W = .ok (.string s) W
theorem EncP (w : World) (A : Option Addr) (n c : Nat) (l : List Int) (hn : n = l.length) (hb : KI.C w A n l) (hc : n ≤ c) (hl : n * 4 ≤ 140737488351232) :
    Calls Try.prog 46 #[.slice A n c] w fun e w' => ∃ v, e = .returned v ∧ Kd.R KB 5 w' w.heap.size (fun _ => True) v (enc l) ∧ Below w.heap.size w w' := by
  subst hn
  exact PUtfDecodes.utf_Encode.calls (2 * l.length + 1) A c l (enc l) w hb hc (enc_pure l hl)
theorem RefEncP (w : World) (A : Option Addr) (n c : Nat) (l : List Int) (hn : n = l.length) (hb : KI.C w A n l) (hc : n ≤ c) (hl : n * 4 ≤ 140737488351232) :
    Calls Try.prog 47 #[.slice A n c] w fun e w' => ∃ v, e = .returned v ∧ Kd.R KB 5 w' w.heap.size (fun _ => True) v (enc l) ∧ Below w.heap.size w w' := by
  subst hn
  exact PUtfEncodes.tremaref01_Encode.calls (l.length + 2) A c l (enc l) w hb hc (ref_pure l hl)
theorem strs_of {w : World} {b : Nat} {ok : Nat → Prop} {v : Value} {l : List Int} (h : Kd.R KB 5 w b ok v l) : Strs w v (strOfNums l) := fun W hW =>
  own_string (P := Try.prog) Try.underlying33 Try.underlying5 Try.underlying9 (Kd.own_of_R (Kd.R_below h hW))
theorem Strs.now {w : World} {v : Value} {s : ByteArray} (h : Strs w v s) : (convert 33 9 v).run Try.prog w = .ok (.string s) w := h w (Below.refl _ _)
theorem Strs.later {w w' : World} {v : Value} {s : ByteArray} (h : Strs w v s) (hb : Below w.heap.size w w') : Strs w' v s := fun W hW => h W (hb.trans (Below.mono hW hb.size))
theorem elt {w : World} {k : IntKind} {A : Option Addr} {n : Nat} {xs : List Int} (h : ReadsInt w k A n xs) (j : Nat) (hj : j < n) : ∃ ad x, A = some ad ∧ x = xs.getD j 0 ∧ w.cell? (ad.add j) = some (.int k x) := by
  obtain ⟨ad, e, hc⟩ := Sn.rd_at h j hj
  exact ⟨ad, _, e, rfl, hc⟩

set_option maxRecDepth 100000 in
set_option maxHeartbeats 1000000 in
theorem encodes (w : World) (A : Option Addr) (l : List Int) (c : Nat) (hC : KI.C w A l.length l) (hc : l.length ≤ c) (hw : ∀ x, x ∈ l → (Lit.int .i32 x).wf = true) (hb : l.length * 4 ≤ 140737488351232) :
    Calls Try.prog 8 #[.slice A l.length c] w fun e w' => e = .returned (.bool true) ∧ Below w.heap.size w w' := by
  obtain ⟨n, hn⟩ : ∃ n, n = l.length := ⟨_, rfl⟩
  rw [← hn] at hC hc hb ⊢
  obtain ⟨s, hs⟩ : ∃ s, s = strOfNums (enc l) := ⟨_, rfl⟩
  have HC := Aside0.mk hC
  have HN := Aside0.mk hn
  have HS := Aside0.mk hs
  clear hC hw hn hs
  go_enter Try.func8, Try.ntmps8
  go_wp2_with (first | (go_at_call 40; go_must (refine (Ug.fixed w).mono ?_; rintro e w1 ⟨rfl, p1⟩; have P1 := Aside0.mk p1; clear p1)))
  go_loopw [9] (fun i wr => ∃ k : Nat, k ≤ n ∧ i = .int .i64 k ∧ Aside0 (Below w1.heap.size w1 wr)) (fun i _ => n - (intOf i).toNat)
  case atStart => exact ⟨0, Nat.zero_le _, rfl, ⟨Below.refl _ _⟩⟩
  case round =>
    obtain ⟨k, hk, rfl, HD⟩ := hrel
    have HW := Aside0.mk (below_then P1.out P1.out.size HD.out)
    by_cases hlt : k < n
    · have hd : decide (k < n) = true := by simpa using hlt
      obtain ⟨ad, x, rfl, -, hcell⟩ := elt (rdint (Kd.C_below HC.out HW.out)) k hlt
      obtain ⟨b, hbv⟩ : ∃ b, b = vld x := ⟨_, rfl⟩
      have hbb : (b != b) = false := by simp
      have HV := Aside0.mk (show PUtfDecodes.utf_Valid.f x = some b by rw [hbv]; exact valid_pure x)
      have HV2 := Aside0.mk (show PUtfEncodes.tremaref01_Valid.f x = some b by rw [hbv]; exact ref_valid x)
      clear hbv
      go_wp2_with (first | (go_at_call 44; go_must (refine (PUtfDecodes.utf_Valid.calls x b wr HV.out).mono ?_; rintro e w2 ⟨rfl, p1⟩; have D1 := Aside0.mk p1; clear p1)) | (go_at_call 45; go_must (refine (PUtfEncodes.tremaref01_Valid.calls x b w2 HV2.out).mono ?_; rintro e w3 ⟨rfl, p1⟩; have D2 := Aside0.mk p1; clear p1)))
      go_roundw
      case rel => exact ⟨k + 1, by omega, by go_num, ⟨below_then (below_then HD.out HD.out.size D1.out.below) (below_then HD.out HD.out.size D1.out.below).size D2.out.below⟩⟩
      case measure => simp [intOf]; omega
    · have hd : decide (k < n) = false := by simpa using hlt
      have HA := Aside0.mk (Kd.C_below HC.out HW.out)
      go_upto_region 9 with fail
      have HAD := Aside0.mk (Kd.C_below HA.out ((Drawn0.refl wr).step 1).below)
      have HBD := Aside0.mk (below_then HW.out HW.out.size ((Drawn0.refl wr).step 1).below)
      go_region_with (first | (go_at_call 46; go_must (refine (EncP wr.drew A n c l HN.out HAD.out hc hb).mono ?_; rintro e w2 ⟨v2, rfl, p1, p2⟩; have S2 := Aside0.mk (HS.out ▸ strs_of p1); have B2 := Aside0.mk p2; have hc2 := S2.out.now; clear p1 p2)) | (go_at_call 47; go_must (refine (RefEncP w2 A n c l HN.out (Kd.C_below HAD.out B2.out) hc hb).mono ?_; rintro e w3 ⟨v3, rfl, p1, p2⟩; have S3 := Aside0.mk (HS.out ▸ strs_of p1); have B3 := Aside0.mk p2; have hc3 := S3.out.now; have hc2b := (S2.out.later B3.out).now; clear p1 p2)))
      all_goals (go_wp2; go_ret)
      all_goals (have b2 := below_then HBD.out HBD.out.size B2.out; exact ⟨rfl, below_then b2 b2.size B3.out⟩)
end Go.Proofs.Ytpebemljgeammaa.Un
