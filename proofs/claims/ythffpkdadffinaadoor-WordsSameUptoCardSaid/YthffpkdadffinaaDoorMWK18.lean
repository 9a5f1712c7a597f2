/-
  Several texts of this claim in one: what its law's proof uses.
-/
import Derived.Test.YthffpkdadffinaaDoorMWK17
import Derived.Test.YthffpkdadffinaaDoorMWK12
import Derived.Test.YthffpkdadffinaaDoorMWK7
import Derived.BigQuiet
import Derived.Test.YthffpkdadffinaaDoorMWK2
import Derived.Test.YthffpkdadffinaaDoorMWK16
import Derived.Test.YthffpkdadffinaaDoorMWK13
import Derived.Lib.SlBytesConst
import Derived.Test.YthffpkdadffinaaDoorMWK5
import Derived.Test.YthffpkdadffinaaDoorMWK15
import Derived.Test.YthffpkdadffinaaDoorMWK9
import Derived.Test.YthffpkdadffinaaDoorMWK6
import Derived.Test.YthffpkdadffinaaDoorMWK4
import Derived.Test.YthffpkdadffinaaDoorMWK10
import Derived.Deep.RegionHeld3
import Derived.Deep.DeepCutAuto
import Derived.Test.YthffpkdadffinaaDoorRows
import Derived.Deep.Slices
import Derived.ChangeArms
import Derived.ChangeMaps
import Derived.SizedLaws
import Derived.OpenShut
import Derived.ProofKit
namespace Go.Proofs.YthffpkdadffinaaDoor.Wj
set_option linter.unusedVariables false
set_option linter.unusedSimpArgs false
open Go.Proofs.YthffpkdadffinaaDoor.Ux (Bytes full)
open Go.Proofs.YthffpkdadffinaaDoor.Ot (rns)
open Go.RowKit YthffpkdadffinaaDoorW.PrintWords Hp Fm X Va Oa Vp0 Sga Sgb Sgd Sgp Sgv Wa Wb Wd Wg
abbrev kW := k60
abbrev TW : Nat := 60
theorem kW_KM {w w' : World} {base : Nat} {ok : Nat → Prop} (x : SW) (cs : List Value) (h : kW.K w x cs) : kW.M w' base ok x cs := by
  obtain rfl := k60_open h; exact k60_mkM _ _ _ _
def PJ (l : List SG) (i : Nat) (st : Option Nat) (out : List SW) : Prop := out ++ (runs (inW (l.map (·.f0))) (l.length - i) i st).map (wordOf l) = wordsF l
theorem PJ_start (l : List SG) : PJ l 0 none [] := by unfold PJ wordsF runsT; simp
theorem PJ_skip {l : List SG} {i : Nat} {out : List SW} (h : PJ l i none out) (hi : i < l.length) (hf : inW (l.map (·.f0)) i = false) : PJ l (i + 1) none out := by
  unfold PJ at h ⊢; rw [show l.length - i = (l.length - (i + 1)) + 1 by omega, runs, hf, if_neg (by decide)] at h; exact h
theorem PJ_open {l : List SG} {i : Nat} {out : List SW} (h : PJ l i none out) (hi : i < l.length) (hf : inW (l.map (·.f0)) i = true) : PJ l i (some i) out := by
  unfold PJ at h ⊢; rw [show l.length - i = (l.length - (i + 1)) + 1 by omega] at h ⊢; rw [runs, if_pos hf] at h; (show out ++ (if inW (l.map (·.f0)) i = true then runs (inW (l.map (·.f0))) (l.length - (i + 1)) (i + 1) (some i) else (i, i) :: runs (inW (l.map (·.f0))) (l.length - (i + 1)) (i + 1) none).map (wordOf l) = _); rw [if_pos hf]; exact h
theorem PJ_step {l : List SG} {i f : Nat} {out : List SW} (h : PJ l i (some f) out) (hi : i < l.length) (hf : inW (l.map (·.f0)) i = true) : PJ l (i + 1) (some f) out := by
  unfold PJ at h ⊢; rw [show l.length - i = (l.length - (i + 1)) + 1 by omega, runs, if_pos hf] at h; exact h
theorem PJ_close {l : List SG} {i f : Nat} {out : List SW} (h : PJ l i (some f) out) (hi : i ≤ l.length) (hf : i < l.length → inW (l.map (·.f0)) i = false) : PJ l (i + 1) none (out ++ [wordOf l (f, i)]) := by
  unfold PJ at h ⊢; by_cases hlt : i < l.length
  · rw [show l.length - i = (l.length - (i + 1)) + 1 by omega, runs, hf hlt, if_neg (by decide), List.map_cons] at h; rw [List.append_assoc]; exact h
  · rw [show l.length - i = 0 by omega, runs] at h; rw [show l.length - (i + 1) = 0 by omega, runs, List.map_nil, List.append_nil]; exact h
theorem PJ_end {l : List SG} {i : Nat} {out : List SW} (h : PJ l i none out) (hi : l.length ≤ i) : out = wordsF l := by
  unfold PJ at h; rw [show l.length - i = 0 by omega, runs, List.map_nil, List.append_nil] at h; exact h
theorem PJ_len {l : List SG} {i : Nat} {st : Option Nat} {out : List SW} (h : PJ l i st out) : out.length ≤ l.length := by
  have h2 := congrArg List.length h; rw [List.length_append] at h2; have h3 := (runs_len (inW (l.map (·.f0))) (l.map (·.f0)).length 0).1; (have h4 : (wordsF l).length ≤ l.length := by unfold wordsF runsT; rw [List.length_map]; rw [List.length_map] at h3 ⊢; exact h3); omega
theorem post_of2 {w w' : World} {L : List Th} (h : Sep w L w') (i : Nat) {v : Value} {l : List SW} (hi : L[i]? = some (rowT kW TW w.heap.size v l)) : kW.R TW w' w.heap.size (fun _ => True) v l := by
  obtain ⟨ok, h1⟩ := h.one i _ hi; exact Kd.R_mono h1 (fun _ _ => trivial)
theorem KeyR (w : World) (hG : G w) (t : ByteArray) (hs : t.size ≤ 16000000) (A : Option Addr) (n c : Nat) (hC : KB.C w A n (bytesOf t)) (hn : n = (bytesOf t).length) (hc : n ≤ c) :
    Calls Tryd.prog 32 #[.slice A n c] w fun e w' => e = .returned (.string (keyS (bytesOf t))) ∧ Below w.heap.size w w' := by
  subst hn; obtain ⟨k, hk⟩ := Ev.rounds (keyS_ev (bytesOf t) (bytesOf_Bytes t) (by rw [bytesOf_length]; exact hs)); exact words_Key.calls k A c (bytesOf t) _ w hC hc hk hG
set_option maxRecDepth 100000 in
set_option maxHeartbeats 8000000 in
theorem JoinP (w : World) (hG : G w) (A : Option Addr) (n c : Nat) (l : List SG) (hC : kG.C w A n l) (hn : n = l.length) (hc : n ≤ c) (hs : sizes (l.map (·.f0)) ≤ 13000000) (hl : n ≤ 13000000) :
    Calls Tryd.prog 30 #[.slice A n c] w fun e w' => ∃ v, e = .returned v ∧ kW.R TW w' w.heap.size (fun _ => True) v (wordsF l) ∧ Below w.heap.size w w' := by
  have HW := Aside0.mk (show ∀ (W : World), Below w.heap.size w W → ∀ j, j < n → Calls Tryd.prog 69 #[.slice A n c, .int .i64 (j : Int)] W (fun e w' => e = .returned (.bool (inW (l.map (·.f0)) j)) ∧ Below W.heap.size W w') from fun W hW j hj => by
    subst hn; obtain ⟨k, hk⟩ := Ev.rounds (withinEv l (fun s hs2 => by have := sizes_mem _ _ (List.mem_map_of_mem (f := (·.f0)) hs2); omega) (by omega) j hj)
    exact words_within.calls k A c l j _ W (Kd.C_below hC hW) hc hk)
  have HN := Aside0.mk hn; have HC := Aside0.mk hC; have HG := Aside0.mk hG; have HSZ := Aside0.mk hs; clear hC hn hG; go_enter Tryd.func30, Tryd.ntmps30; go_wp2; go_loopw [3, 4] (fun lv iv wr => ∃ (i : Nat) (out : List SW), iv = .int .i64 i ∧ Aside0 (i ≤ n + 1 ∧ PJ l i none out) ∧ Aside0 (Sep w [rowT kW TW w.heap.size lv out] wr)) (fun _ iv _ => n + 1 - (intOf iv).toNat)
  case atStart => exact ⟨0, [], rfl, ⟨by omega, PJ_start l⟩, ⟨(Sep.nil w).empty kW TW w.heap.size⟩⟩
  case round =>
    obtain ⟨i, out, rfl, HP, HS⟩ := hrel; by_cases hlt : i < n
    · have hd : decide ((i : Int) < (n : Int)) = true := decide_eq_true (by omega); have hd' : decide (i < n) = true := decide_eq_true hlt
      cases hin : inW (l.map (·.f0)) i with
      | false =>
        have HI := Aside0.mk hin; clear hin; go_wp2_with (go_at_call 69; go_must (refine (HW.out wr HS.out.below i hlt).mono ?_; rw [HI.out]; rintro E w2 ⟨rfl, p1⟩; have HS2 := Aside0.mk (HS.out.later p1); clear p1)); go_roundw
        case rel => exact ⟨i + 1, out, by go_num, ⟨by omega, PJ_skip HP.out.2 (by rw [← HN.out]; exact hlt) HI.out⟩, HS2⟩
        case measure => simp [intOf]; omega
      | true =>
        have HI := Aside0.mk hin; clear hin; go_wp2_with (go_at_call 69; go_must (refine (HW.out wr HS.out.below i hlt).mono ?_; rw [HI.out]; rintro E w2 ⟨rfl, p1⟩; have HS1 := Aside0.mk (HS.out.later p1); clear p1)); go_loopw [4, 6] (fun iv tv wq => ∃ (i2 : Nat) (t : ByteArray), iv = .int .i64 i2 ∧ tv = .string t ∧ Aside0 (i ≤ i2 ∧ i2 ≤ n ∧ PJ l i2 (some i) out) ∧ Aside0 (t = catR (l.map (·.f0)) i i2) ∧ Aside0 (Sep w [rowT kW TW w.heap.size u3 out] wq)) (fun iv _ _ => n - (intOf iv).toNat)
        case atStart => exact ⟨i, ⟨#[]⟩, rfl, rfl, ⟨Nat.le_refl _, by omega, PJ_open HP.out.2 (by rw [← HN.out]; exact hlt) HI.out⟩, ⟨(catR_self _ _).symm⟩, HS1⟩
        case round =>
          obtain ⟨i2, t, rfl, rfl, HQ, HT, HS2⟩ := hrel; by_cases hlt2 : i2 < n
          · have hd2 : decide ((i2 : Int) < (n : Int)) = true := decide_eq_true (by omega); have hd2' : decide (i2 < n) = true := decide_eq_true hlt2
            cases hin2 : inW (l.map (·.f0)) i2 with
            | true =>
              have HI2 := Aside0.mk hin2; clear hin2; obtain ⟨ad, rfl, z0, -, -⟩ := sg_at HC.out i2 hlt2 (by rw [← HN.out]; exact hlt2); have HCS := Aside0.mk (catR_succ (l.map (·.f0)) i i2 HQ.out.1 (by rw [List.length_map, ← HN.out]; exact hlt2)); simp only [List.getElem_map] at HCS; obtain ⟨x, hx⟩ : ∃ x, x = (l[i2]'(by rw [← HN.out]; exact hlt2)).f0 := ⟨_, rfl⟩; rw [← hx] at z0 HCS
              have hsz : t.size + x.size ≤ 9223372036854775807 := by
                have h1 := catR_size (l.map (·.f0)) i (i2 + 1); rw [HCS.out, ← HT.out, ByteArray.size_append] at h1; have := HSZ.out; omega
              have Z0 := Aside0.mk z0; clear z0 hx; go_upto_region 8 with (go_at_call 69; go_must (refine (HW.out wr HS2.out.below i2 hlt2).mono ?_; rw [HI2.out]; rintro E w3 ⟨rfl, p1⟩; have HS3 := Aside0.mk (HS2.out.later p1); clear p1)); have hcell := cell_later HS3.out.below Z0.out; go_wp2; go_roundw
              case rel => exact ⟨i2 + 1, t ++ x, by go_num, rfl, ⟨by have := HQ.out.1; omega, by omega, PJ_step HQ.out.2.2 (by rw [← HN.out]; exact hlt2) HI2.out⟩, ⟨by rw [HCS.out, HT.out]⟩, HS3⟩
              case measure => simp [intOf]; omega
            | false =>
              have HI2 := Aside0.mk hin2; clear hin2
              have hii : i < i2 := by
                have := HQ.out.1; rcases Nat.lt_or_ge i i2 with h | h
                · exact h
                · exact absurd (show i2 = i by omega) (fun e => by have h1 := HI.out; have h2 := HI2.out; rw [e, h1] at h2; cases h2)
              go_upto_region 10 with (go_at_call 69; go_must (refine (HW.out wr HS2.out.below i2 hlt2).mono ?_; rw [HI2.out]; rintro E w3 ⟨rfl, p1⟩; have HS3 := Aside0.mk (HS2.out.later p1); clear p1)); have HPC := Aside0.mk (PJ_close HQ.out.2.2 (by rw [← HN.out]; omega) (fun _ => HI2.out)); clear hd2 hd2' hlt2; have hle : i2 ≤ n := HQ.out.2.1; obtain ⟨j, rfl⟩ : ∃ j, i2 = j + 1 := ⟨i2 - 1, by omega⟩; obtain ⟨ad0, e0, -, Z1, -⟩ := sg_at HC.out i (by omega) (by rw [← HN.out]; omega); obtain ⟨ad1, e1, -, -, Z2⟩ := sg_at HC.out j (by omega) (by rw [← HN.out]; omega); obtain rfl : ad1 = ad0 := Option.some.inj (e1.symm.trans e0); subst e0; clear e1; (have hil : i < l.length := by rw [← HN.out]; omega); (have hjl : j < l.length := by rw [← HN.out]; omega); (have hg1 : (gAt l i).f1 = l[i].f1 := by rw [gAt_eq]); (have hg2 : (gAt l j).f2 = l[j].f2 := by rw [gAt_eq]); obtain ⟨a1, ha1⟩ : ∃ a1, a1 = l[i].f1 := ⟨_, rfl⟩; obtain ⟨a2, ha2⟩ : ∃ a2, a2 = l[j].f2 := ⟨_, rfl⟩; rw [← ha1] at Z1 hg1; rw [← ha2] at Z2 hg2; obtain ⟨ky, hky⟩ : ∃ ky, ky = keyS (bytesOf t) := ⟨_, rfl⟩
              have HX := Aside0.mk (show wordOf l (i, j + 1) = ⟨ky, ⟨i, ((j + 1 : Nat) : Int), a1, a2⟩⟩ by
                unfold wordOf keyR; simp only [Nat.add_sub_cancel, hg1, hg2]
                rw [← HT.out, hky])
              have hts : t.size ≤ 13000000 := by
                have h1 := catR_size (l.map (·.f0)) i (j + 1); rw [← HT.out] at h1; have := HSZ.out; omega
              have HKEY := Aside0.mk (fun (W : World) (h : Below w.heap.size w W) => KeyR W (HG.out.below h) t (by omega)); rw [← hky] at HKEY; (have hwj : wrap64 (((j + 1 : Nat) : Int) - 1) = (j : Int) := by unfold wrap64; omega); (have hwj3 : IntKind.i64.wrap (j : Int) = (j : Int) := by rw [IntKind.wrap_i64]; omega); have hjn : (n ≤ j) = False := eq_false (by omega); (have hwj2 : wrap64 ((j : Int) + 1 - 1) = (j : Int) := by unfold wrap64; omega); have ZA := Aside0.mk Z1; have ZB := Aside0.mk Z2; (have kb := fun W => print_bytes (P := Tryd.prog) 9 23 5 Tryd.underlying9 Tryd.underlying23 Tryd.underlying5 t W); have HB2 := Aside0.mk (fun W : World => bytes_below (Below.refl W.heap.size W) (Nat.le_refl _) 5 t); have HBR := Aside0.mk (fun W : World => bytes_reads W 5 t (by omega)); obtain ⟨x, hx⟩ : ∃ x : SW, x = ⟨ky, ⟨i, ((j + 1 : Nat) : Int), a1, a2⟩⟩ := ⟨_, rfl⟩; have HXX := Aside0.mk hx; clear hg1 hg2 ha1 ha2 hky Z1 Z2 hx; have SD := Aside0.mk (HS3.out.later ((Drawn0.refl w3).step 1).below); refine wp_region_held_drew (S := fun W => Below w.heap.size w W) (by kernel_rfl) SD.out.below (fun hS => ?_); refine wpAnyH_take (i := 0) (oi := { dst := some 36, op := _, type := _, pos := _, after := _, guard := _ }) (v := u3) rfl (by kernel_rfl) (by kernel_rfl) (by kernel_rfl) (fun _ _ _ h => h) (Or.inl ⟨by rfl, fun W hW => ?_⟩) hS ?_
              · (go_simp)
              (try simp only [Act.put, List.setIfInBounds_toArray, List.set_cons_zero, List.set_cons_succ]); refine wpAnyH_take (i := 1) (oi := { dst := some 37, op := _, type := _, pos := _, after := _, guard := _ }) (v := .string t) rfl (by kernel_rfl) (by kernel_rfl) (by kernel_rfl) (fun _ _ _ h => h) (Or.inl ⟨by rfl, fun W hW => ?_⟩) hS ?_
              · (go_simp)
              (try simp only [Act.put, List.setIfInBounds_toArray, List.set_cons_zero, List.set_cons_succ]); refine wpAnyH_take (i := 4) (oi := { dst := some 40, op := _, type := _, pos := _, after := _, guard := _ }) (v := .int .i64 (i : Int)) rfl (by kernel_rfl) (by kernel_rfl) (by kernel_rfl) (fun _ _ _ h => h) (Or.inl ⟨by rfl, fun W hW => ?_⟩) hS ?_
              · (go_simp)
              (try simp only [Act.put, List.setIfInBounds_toArray, List.set_cons_zero, List.set_cons_succ]); refine wpAnyH_take (i := 5) (oi := { dst := some 41, op := _, type := _, pos := _, after := _, guard := _ }) (v := .int .i64 ((j + 1 : Nat) : Int)) rfl (by kernel_rfl) (by kernel_rfl) (by kernel_rfl) (fun _ _ _ h => h) (Or.inl ⟨by rfl, fun W hW => ?_⟩) hS ?_
              · (go_simp)
              (try simp only [Act.put, List.setIfInBounds_toArray, List.set_cons_zero, List.set_cons_succ]); refine wpAnyH_take (i := 6) (oi := { dst := some 42, op := _, type := _, pos := _, after := _, guard := _ }) (v := .slice (some ad1) n c) rfl (by kernel_rfl) (by kernel_rfl) (by kernel_rfl) (fun _ _ _ h => h) (Or.inl ⟨by rfl, fun W hW => ?_⟩) hS ?_
              · (go_simp)
              (try simp only [Act.put, List.setIfInBounds_toArray, List.set_cons_zero, List.set_cons_succ]); refine wpAnyH_take (i := 7) (oi := { dst := some 43, op := _, type := _, pos := _, after := _, guard := _ }) (v := .int .i64 (i : Int)) rfl (by kernel_rfl) (by kernel_rfl) (by kernel_rfl) (fun _ _ _ h => h) (Or.inl ⟨by rfl, fun W hW => ?_⟩) hS ?_
              · (go_simp)
              (try simp only [Act.put, List.setIfInBounds_toArray, List.set_cons_zero, List.set_cons_succ]); refine wpAnyH_take (i := 8) (oi := { dst := some 44, op := _, type := _, pos := _, after := _, guard := _ }) (v := .pointer (some (ad1.add (i * 3)))) rfl (by kernel_rfl) (by kernel_rfl) (by kernel_rfl) (fun _ _ _ h => h) (Or.inl ⟨by rfl, fun W hW => ?_⟩) hS ?_
              · (go_simp)
              (try simp only [Act.put, List.setIfInBounds_toArray, List.set_cons_zero, List.set_cons_succ]); refine wpAnyH_take (i := 9) (oi := { dst := some 45, op := _, type := _, pos := _, after := _, guard := _ }) (v := .pointer (some ⟨(ad1.add (i * 3)).block, (ad1.add (i * 3)).off + 1, none⟩)) rfl (by kernel_rfl) (by kernel_rfl) (by kernel_rfl) (fun _ _ _ h => h) (Or.inl ⟨by rfl, fun W hW => ?_⟩) hS ?_
              · (go_simp)
              (try simp only [Act.put, List.setIfInBounds_toArray, List.set_cons_zero, List.set_cons_succ]); refine wpAnyH_take (i := 10) (oi := { dst := some 46, op := _, type := _, pos := _, after := _, guard := _ }) (v := .int .i64 a1) rfl (by kernel_rfl) (by kernel_rfl) (by kernel_rfl) (fun _ _ _ h => h) (Or.inl ⟨by rfl, fun W hW => ?_⟩) hS ?_
              · (have hcell := cell_later hW ZA.out; go_simp)
              (try simp only [Act.put, List.setIfInBounds_toArray, List.set_cons_zero, List.set_cons_succ]); refine wpAnyH_take (i := 11) (oi := { dst := some 47, op := _, type := _, pos := _, after := _, guard := _ }) (v := .slice (some ad1) n c) rfl (by kernel_rfl) (by kernel_rfl) (by kernel_rfl) (fun _ _ _ h => h) (Or.inl ⟨by rfl, fun W hW => ?_⟩) hS ?_
              · (go_simp)
              (try simp only [Act.put, List.setIfInBounds_toArray, List.set_cons_zero, List.set_cons_succ]); refine wpAnyH_take (i := 12) (oi := { dst := some 48, op := _, type := _, pos := _, after := _, guard := _ }) (v := .int .i64 ((j + 1 : Nat) : Int)) rfl (by kernel_rfl) (by kernel_rfl) (by kernel_rfl) (fun _ _ _ h => h) (Or.inl ⟨by rfl, fun W hW => ?_⟩) hS ?_
              · (go_simp)
              (try simp only [Act.put, List.setIfInBounds_toArray, List.set_cons_zero, List.set_cons_succ]); refine wpAnyH_take (i := 13) (oi := { dst := some 49, op := _, type := _, pos := _, after := _, guard := _ }) (v := .int .i64 (j : Int)) rfl (by kernel_rfl) (by kernel_rfl) (by kernel_rfl) (fun _ _ _ h => h) (Or.inl ⟨by rfl, fun W hW => ?_⟩) hS ?_
              · (go_simp)
              (try simp only [Act.put, List.setIfInBounds_toArray, List.set_cons_zero, List.set_cons_succ]); refine wpAnyH_take (i := 14) (oi := { dst := some 50, op := _, type := _, pos := _, after := _, guard := _ }) (v := .pointer (some (ad1.add (j * 3)))) rfl (by kernel_rfl) (by kernel_rfl) (by kernel_rfl) (fun _ _ _ h => h) (Or.inl ⟨by rfl, fun W hW => ?_⟩) hS ?_
              · (go_simp)
              (try simp only [Act.put, List.setIfInBounds_toArray, List.set_cons_zero, List.set_cons_succ]); refine wpAnyH_take (i := 15) (oi := { dst := some 51, op := _, type := _, pos := _, after := _, guard := _ }) (v := .pointer (some ⟨(ad1.add (j * 3)).block, (ad1.add (j * 3)).off + 2, none⟩)) rfl (by kernel_rfl) (by kernel_rfl) (by kernel_rfl) (fun _ _ _ h => h) (Or.inl ⟨by rfl, fun W hW => ?_⟩) hS ?_
              · (go_simp)
              (try simp only [Act.put, List.setIfInBounds_toArray, List.set_cons_zero, List.set_cons_succ]); refine wpAnyH_take (i := 16) (oi := { dst := some 52, op := _, type := _, pos := _, after := _, guard := _ }) (v := .int .i64 a2) rfl (by kernel_rfl) (by kernel_rfl) (by kernel_rfl) (fun _ _ _ h => h) (Or.inl ⟨by rfl, fun W hW => ?_⟩) hS ?_
              · (have hcell := cell_later hW ZB.out; go_simp)
              (try simp only [Act.put, List.setIfInBounds_toArray, List.set_cons_zero, List.set_cons_succ]); refine wpAnyH_take (i := 17) (oi := { dst := some 53, op := _, type := _, pos := _, after := _, guard := _ }) (v := .agg #[.int .i64 (i : Int), .int .i64 ((j + 1 : Nat) : Int), .int .i64 a1, .int .i64 a2]) rfl (by kernel_rfl) (by kernel_rfl) (by kernel_rfl) (fun _ _ _ h => h) (Or.inl ⟨by rfl, fun W hW => ?_⟩) hS ?_
              · (go_simp)
              (try simp only [Act.put, List.setIfInBounds_toArray, List.set_cons_zero, List.set_cons_succ]); refine wpAnyH_ready (rs := [2]) (by kernel_rfl) (by simp) ?_; refine AllReadyH.cons (o := { dst := some 38, op := _, type := _, pos := _, after := _, guard := _ }) rfl (fun K hK => ?_) AllReadyH.nil; go_simp; have S4 := Aside0.mk (SD.out.later (HB2.out _)); have C4 := Aside0.mk (HBR.out (w3.drewN 1)); refine hK.out _ _ S4.out.below (fun hS2 => ?_); clear hK K hS; have hS := hS2; clear hS2; (try simp only [Act.put, List.setIfInBounds_toArray, List.set_cons_zero, List.set_cons_succ]); refine wpAnyH_ready (rs := [3]) (by kernel_rfl) (by simp) ?_; refine AllReadyH.cons (o := { dst := some 39, op := _, type := _, pos := _, after := _, guard := _ }) rfl (fun K hK => ?_) AllReadyH.nil; go_simp; refine (HKEY.out _ S4.out.below _ t.size _ (Hp.rdC (HBR.out w3.drew)) (bytesOf_length t).symm (grownCap_ge _ _ _ _)).mono ?_; rintro E w5 ⟨rfl, p1⟩; have S5 := Aside0.mk (S4.out.later p1); clear p1; go_wp2_with fail; refine hK.out _ _ S5.out.below (fun hS2 => ?_); clear hK K hS; have hS := hS2; clear hS2; (try simp only [Act.put, List.setIfInBounds_toArray, List.set_cons_zero, List.set_cons_succ]); refine wpAnyH_take (i := 18) (oi := { dst := some 54, op := _, type := _, pos := _, after := _, guard := _ }) (v := .agg #[.string ky, .int .i64 (i : Int), .int .i64 ((j + 1 : Nat) : Int), .int .i64 a1, .int .i64 a2]) rfl (by kernel_rfl) (by kernel_rfl) (by kernel_rfl) (fun _ _ _ h => h) (Or.inl ⟨by rfl, fun W hW => ?_⟩) hS ?_
              · (go_simp)
              (try simp only [Act.put, List.setIfInBounds_toArray, List.set_cons_zero, List.set_cons_succ]); refine wpAnyH_ready (rs := [19]) (by kernel_rfl) (by simp) ?_; refine AllReadyH.cons (o := { dst := some 55, op := _, type := _, pos := _, after := _, guard := _ }) rfl (fun K hK => ?_) AllReadyH.nil; refine Kd.R_lit_step kW _ TW (by rfl) (N := 55) rfl (xs := [x]) (inner := [.string ky, .int .i64 (i : Int), .int .i64 ((j + 1 : Nat) : Int), .int .i64 a1, .int .i64 a2]) (ok := fun _ => True) (okp := fun _ => True) ?hr (Reps.c5 ?hm (Reps.none _ _)) (fun _ hk => hk) trivial (Below.refl _ _) (Nat.le_refl _) (by simp) (fun v6 w6 hR6 hb6 hg6 hat6 => ?_)
              case hr => first | (go_simp; done) | (go_simp; rfl)
              case hm => rw [HXX.out]; exact k60_mkM _ _ _ _
              obtain ⟨A6, c6, rfl, hc6, hC6⟩ := Kd.R_reads hR6; have S6 := Aside0.mk (S5.out.later hb6); clear hR6 hb6 hg6 hat6; refine hK.out _ _ S6.out.below (fun hS2 => ?_); clear hK K hS; have hS := hS2; clear hS2; (try simp only [Act.put, List.setIfInBounds_toArray, List.set_cons_zero, List.set_cons_succ]); refine wpAnyH_ready (rs := [20]) (by kernel_rfl) (by simp) ?_; refine AllReadyH.cons (o := { dst := some 56, op := _, type := _, pos := _, after := _, guard := _ }) rfl (fun K hK => ?_) AllReadyH.nil; obtain ⟨ok7, q1, q2, q3⟩ := Sep.row (d := kW) (e := TW) (base := w.heap.size) (v := u3) (xs := out) S6.out 0 rfl; refine Kd.R_append_rows_step kW (Rr := kW.K w6) (w0 := w6) w.heap.size (by rfl) (.tmp 36) (.tmp 55) 49 TW (.agg #[.string ⟨#[]⟩, .int .i64 0, .int .i64 0, .int .i64 0, .int .i64 0]) 48 rfl Tryd.underlying49 info60 rfl (by decide) (by decide) u3 out [x] A6 [x].length c6 ok7 (fun _ => False) rfl rfl q1 hC6 (fun x cs h => kW_KM x cs h) (fun _ h => h.elim) q2 (Below.refl _ _) S6.out.below.size (by have := PJ_len HP.out.2; have := HN.out; simp only [List.length_singleton]; omega) (fun v7 w7 hR7 hb7 hg7 hat7 => ?_); have S7 := Aside0.mk (q3 v7 w7 _ hR7 hg7); clear q1 q2 q3 hR7 hb7 hg7 hat7; refine hK.out _ _ S7.out.below (fun hS2 => ?_); clear hK K hS; have hS := hS2; clear hS2; (try simp only [Act.put, List.setIfInBounds_toArray, List.set_cons_zero, List.set_cons_succ]); refine wpAnyH_take (i := 21) (oi := { dst := some 3, op := _, type := _, pos := _, after := _, guard := _ }) (v := v7) rfl (by kernel_rfl) (by kernel_rfl) (by kernel_rfl) (fun _ _ _ h => h) (Or.inl ⟨by rfl, fun W hW => ?_⟩) hS ?_
              · (go_simp)
              (try simp only [Act.put, List.setIfInBounds_toArray, List.set_cons_zero, List.set_cons_succ]); refine wpAnyH_done (by kernel_rfl) ?_ _; go_wp2; go_roundw
              case rel => exact ⟨j + 1 + 1, out ++ [x], by go_num, ⟨by omega, by have h := HPC.out; rw [HX.out, ← HXX.out] at h; exact h⟩, S7⟩
              case measure => simp [intOf]; omega
          · have hd2 : decide ((i2 : Int) < (n : Int)) = false := decide_eq_false (by omega); have hd2' : decide (i2 < n) = false := decide_eq_false hlt2; have hle : i2 ≤ n := HQ.out.2.1; (have hii : i < i2 := by omega); go_upto_region 10 with (fail); have HPC := Aside0.mk (PJ_close HQ.out.2.2 (by rw [← HN.out]; omega) (fun h => absurd h (by rw [← HN.out]; exact hlt2))); clear hd2 hd2' hlt2; have HS3 := HS2; obtain ⟨j, rfl⟩ : ∃ j, i2 = j + 1 := ⟨i2 - 1, by omega⟩; obtain ⟨ad0, e0, -, Z1, -⟩ := sg_at HC.out i (by omega) (by rw [← HN.out]; omega); obtain ⟨ad1, e1, -, -, Z2⟩ := sg_at HC.out j (by omega) (by rw [← HN.out]; omega); obtain rfl : ad1 = ad0 := Option.some.inj (e1.symm.trans e0); subst e0; clear e1; (have hil : i < l.length := by rw [← HN.out]; omega); (have hjl : j < l.length := by rw [← HN.out]; omega); (have hg1 : (gAt l i).f1 = l[i].f1 := by rw [gAt_eq]); (have hg2 : (gAt l j).f2 = l[j].f2 := by rw [gAt_eq]); obtain ⟨a1, ha1⟩ : ∃ a1, a1 = l[i].f1 := ⟨_, rfl⟩; obtain ⟨a2, ha2⟩ : ∃ a2, a2 = l[j].f2 := ⟨_, rfl⟩; rw [← ha1] at Z1 hg1; rw [← ha2] at Z2 hg2; obtain ⟨ky, hky⟩ : ∃ ky, ky = keyS (bytesOf t) := ⟨_, rfl⟩
            have HX := Aside0.mk (show wordOf l (i, j + 1) = ⟨ky, ⟨i, ((j + 1 : Nat) : Int), a1, a2⟩⟩ by
              unfold wordOf keyR; simp only [Nat.add_sub_cancel, hg1, hg2]
              rw [← HT.out, hky])
            have hts : t.size ≤ 13000000 := by
              have h1 := catR_size (l.map (·.f0)) i (j + 1); rw [← HT.out] at h1; have := HSZ.out; omega
            have HKEY := Aside0.mk (fun (W : World) (h : Below w.heap.size w W) => KeyR W (HG.out.below h) t (by omega)); rw [← hky] at HKEY; (have hwj : wrap64 (((j + 1 : Nat) : Int) - 1) = (j : Int) := by unfold wrap64; omega); (have hwj3 : IntKind.i64.wrap (j : Int) = (j : Int) := by rw [IntKind.wrap_i64]; omega); have hjn : (n ≤ j) = False := eq_false (by omega); (have hwj2 : wrap64 ((j : Int) + 1 - 1) = (j : Int) := by unfold wrap64; omega); have ZA := Aside0.mk Z1; have ZB := Aside0.mk Z2; (have kb := fun W => print_bytes (P := Tryd.prog) 9 23 5 Tryd.underlying9 Tryd.underlying23 Tryd.underlying5 t W); have HB2 := Aside0.mk (fun W : World => bytes_below (Below.refl W.heap.size W) (Nat.le_refl _) 5 t); have HBR := Aside0.mk (fun W : World => bytes_reads W 5 t (by omega)); obtain ⟨x, hx⟩ : ∃ x : SW, x = ⟨ky, ⟨i, ((j + 1 : Nat) : Int), a1, a2⟩⟩ := ⟨_, rfl⟩; have HXX := Aside0.mk hx; clear hg1 hg2 ha1 ha2 hky Z1 Z2 hx; have SD := Aside0.mk (HS3.out.later ((Drawn0.refl wr).step 1).below); refine wp_region_held_drew (S := fun W => Below w.heap.size w W) (by kernel_rfl) SD.out.below (fun hS => ?_); refine wpAnyH_take (i := 0) (oi := { dst := some 36, op := _, type := _, pos := _, after := _, guard := _ }) (v := u3) rfl (by kernel_rfl) (by kernel_rfl) (by kernel_rfl) (fun _ _ _ h => h) (Or.inl ⟨by rfl, fun W hW => ?_⟩) hS ?_
            · (go_simp)
            (try simp only [Act.put, List.setIfInBounds_toArray, List.set_cons_zero, List.set_cons_succ]); refine wpAnyH_take (i := 1) (oi := { dst := some 37, op := _, type := _, pos := _, after := _, guard := _ }) (v := .string t) rfl (by kernel_rfl) (by kernel_rfl) (by kernel_rfl) (fun _ _ _ h => h) (Or.inl ⟨by rfl, fun W hW => ?_⟩) hS ?_
            · (go_simp)
            (try simp only [Act.put, List.setIfInBounds_toArray, List.set_cons_zero, List.set_cons_succ]); refine wpAnyH_take (i := 4) (oi := { dst := some 40, op := _, type := _, pos := _, after := _, guard := _ }) (v := .int .i64 (i : Int)) rfl (by kernel_rfl) (by kernel_rfl) (by kernel_rfl) (fun _ _ _ h => h) (Or.inl ⟨by rfl, fun W hW => ?_⟩) hS ?_
            · (go_simp)
            (try simp only [Act.put, List.setIfInBounds_toArray, List.set_cons_zero, List.set_cons_succ]); refine wpAnyH_take (i := 5) (oi := { dst := some 41, op := _, type := _, pos := _, after := _, guard := _ }) (v := .int .i64 ((j + 1 : Nat) : Int)) rfl (by kernel_rfl) (by kernel_rfl) (by kernel_rfl) (fun _ _ _ h => h) (Or.inl ⟨by rfl, fun W hW => ?_⟩) hS ?_
            · (go_simp)
            (try simp only [Act.put, List.setIfInBounds_toArray, List.set_cons_zero, List.set_cons_succ]); refine wpAnyH_take (i := 6) (oi := { dst := some 42, op := _, type := _, pos := _, after := _, guard := _ }) (v := .slice (some ad1) n c) rfl (by kernel_rfl) (by kernel_rfl) (by kernel_rfl) (fun _ _ _ h => h) (Or.inl ⟨by rfl, fun W hW => ?_⟩) hS ?_
            · (go_simp)
            (try simp only [Act.put, List.setIfInBounds_toArray, List.set_cons_zero, List.set_cons_succ]); refine wpAnyH_take (i := 7) (oi := { dst := some 43, op := _, type := _, pos := _, after := _, guard := _ }) (v := .int .i64 (i : Int)) rfl (by kernel_rfl) (by kernel_rfl) (by kernel_rfl) (fun _ _ _ h => h) (Or.inl ⟨by rfl, fun W hW => ?_⟩) hS ?_
            · (go_simp)
            (try simp only [Act.put, List.setIfInBounds_toArray, List.set_cons_zero, List.set_cons_succ]); refine wpAnyH_take (i := 8) (oi := { dst := some 44, op := _, type := _, pos := _, after := _, guard := _ }) (v := .pointer (some (ad1.add (i * 3)))) rfl (by kernel_rfl) (by kernel_rfl) (by kernel_rfl) (fun _ _ _ h => h) (Or.inl ⟨by rfl, fun W hW => ?_⟩) hS ?_
            · (go_simp)
            (try simp only [Act.put, List.setIfInBounds_toArray, List.set_cons_zero, List.set_cons_succ]); refine wpAnyH_take (i := 9) (oi := { dst := some 45, op := _, type := _, pos := _, after := _, guard := _ }) (v := .pointer (some ⟨(ad1.add (i * 3)).block, (ad1.add (i * 3)).off + 1, none⟩)) rfl (by kernel_rfl) (by kernel_rfl) (by kernel_rfl) (fun _ _ _ h => h) (Or.inl ⟨by rfl, fun W hW => ?_⟩) hS ?_
            · (go_simp)
            (try simp only [Act.put, List.setIfInBounds_toArray, List.set_cons_zero, List.set_cons_succ]); refine wpAnyH_take (i := 10) (oi := { dst := some 46, op := _, type := _, pos := _, after := _, guard := _ }) (v := .int .i64 a1) rfl (by kernel_rfl) (by kernel_rfl) (by kernel_rfl) (fun _ _ _ h => h) (Or.inl ⟨by rfl, fun W hW => ?_⟩) hS ?_
            · (have hcell := cell_later hW ZA.out; go_simp)
            (try simp only [Act.put, List.setIfInBounds_toArray, List.set_cons_zero, List.set_cons_succ]); refine wpAnyH_take (i := 11) (oi := { dst := some 47, op := _, type := _, pos := _, after := _, guard := _ }) (v := .slice (some ad1) n c) rfl (by kernel_rfl) (by kernel_rfl) (by kernel_rfl) (fun _ _ _ h => h) (Or.inl ⟨by rfl, fun W hW => ?_⟩) hS ?_
            · (go_simp)
            (try simp only [Act.put, List.setIfInBounds_toArray, List.set_cons_zero, List.set_cons_succ]); refine wpAnyH_take (i := 12) (oi := { dst := some 48, op := _, type := _, pos := _, after := _, guard := _ }) (v := .int .i64 ((j + 1 : Nat) : Int)) rfl (by kernel_rfl) (by kernel_rfl) (by kernel_rfl) (fun _ _ _ h => h) (Or.inl ⟨by rfl, fun W hW => ?_⟩) hS ?_
            · (go_simp)
            (try simp only [Act.put, List.setIfInBounds_toArray, List.set_cons_zero, List.set_cons_succ]); refine wpAnyH_take (i := 13) (oi := { dst := some 49, op := _, type := _, pos := _, after := _, guard := _ }) (v := .int .i64 (j : Int)) rfl (by kernel_rfl) (by kernel_rfl) (by kernel_rfl) (fun _ _ _ h => h) (Or.inl ⟨by rfl, fun W hW => ?_⟩) hS ?_
            · (go_simp)
            (try simp only [Act.put, List.setIfInBounds_toArray, List.set_cons_zero, List.set_cons_succ]); refine wpAnyH_take (i := 14) (oi := { dst := some 50, op := _, type := _, pos := _, after := _, guard := _ }) (v := .pointer (some (ad1.add (j * 3)))) rfl (by kernel_rfl) (by kernel_rfl) (by kernel_rfl) (fun _ _ _ h => h) (Or.inl ⟨by rfl, fun W hW => ?_⟩) hS ?_
            · (go_simp)
            (try simp only [Act.put, List.setIfInBounds_toArray, List.set_cons_zero, List.set_cons_succ]); refine wpAnyH_take (i := 15) (oi := { dst := some 51, op := _, type := _, pos := _, after := _, guard := _ }) (v := .pointer (some ⟨(ad1.add (j * 3)).block, (ad1.add (j * 3)).off + 2, none⟩)) rfl (by kernel_rfl) (by kernel_rfl) (by kernel_rfl) (fun _ _ _ h => h) (Or.inl ⟨by rfl, fun W hW => ?_⟩) hS ?_
            · (go_simp)
            (try simp only [Act.put, List.setIfInBounds_toArray, List.set_cons_zero, List.set_cons_succ]); refine wpAnyH_take (i := 16) (oi := { dst := some 52, op := _, type := _, pos := _, after := _, guard := _ }) (v := .int .i64 a2) rfl (by kernel_rfl) (by kernel_rfl) (by kernel_rfl) (fun _ _ _ h => h) (Or.inl ⟨by rfl, fun W hW => ?_⟩) hS ?_
            · (have hcell := cell_later hW ZB.out; go_simp)
            (try simp only [Act.put, List.setIfInBounds_toArray, List.set_cons_zero, List.set_cons_succ]); refine wpAnyH_take (i := 17) (oi := { dst := some 53, op := _, type := _, pos := _, after := _, guard := _ }) (v := .agg #[.int .i64 (i : Int), .int .i64 ((j + 1 : Nat) : Int), .int .i64 a1, .int .i64 a2]) rfl (by kernel_rfl) (by kernel_rfl) (by kernel_rfl) (fun _ _ _ h => h) (Or.inl ⟨by rfl, fun W hW => ?_⟩) hS ?_
            · (go_simp)
            (try simp only [Act.put, List.setIfInBounds_toArray, List.set_cons_zero, List.set_cons_succ]); refine wpAnyH_ready (rs := [2]) (by kernel_rfl) (by simp) ?_; refine AllReadyH.cons (o := { dst := some 38, op := _, type := _, pos := _, after := _, guard := _ }) rfl (fun K hK => ?_) AllReadyH.nil; go_simp; have S4 := Aside0.mk (SD.out.later (HB2.out _)); have C4 := Aside0.mk (HBR.out (wr.drewN 1)); refine hK.out _ _ S4.out.below (fun hS2 => ?_); clear hK K hS; have hS := hS2; clear hS2; (try simp only [Act.put, List.setIfInBounds_toArray, List.set_cons_zero, List.set_cons_succ]); refine wpAnyH_ready (rs := [3]) (by kernel_rfl) (by simp) ?_; refine AllReadyH.cons (o := { dst := some 39, op := _, type := _, pos := _, after := _, guard := _ }) rfl (fun K hK => ?_) AllReadyH.nil; go_simp; refine (HKEY.out _ S4.out.below _ t.size _ (Hp.rdC (HBR.out wr.drew)) (bytesOf_length t).symm (grownCap_ge _ _ _ _)).mono ?_; rintro E w5 ⟨rfl, p1⟩; have S5 := Aside0.mk (S4.out.later p1); clear p1; go_wp2_with fail; refine hK.out _ _ S5.out.below (fun hS2 => ?_); clear hK K hS; have hS := hS2; clear hS2; (try simp only [Act.put, List.setIfInBounds_toArray, List.set_cons_zero, List.set_cons_succ]); refine wpAnyH_take (i := 18) (oi := { dst := some 54, op := _, type := _, pos := _, after := _, guard := _ }) (v := .agg #[.string ky, .int .i64 (i : Int), .int .i64 ((j + 1 : Nat) : Int), .int .i64 a1, .int .i64 a2]) rfl (by kernel_rfl) (by kernel_rfl) (by kernel_rfl) (fun _ _ _ h => h) (Or.inl ⟨by rfl, fun W hW => ?_⟩) hS ?_
            · (go_simp)
            (try simp only [Act.put, List.setIfInBounds_toArray, List.set_cons_zero, List.set_cons_succ]); refine wpAnyH_ready (rs := [19]) (by kernel_rfl) (by simp) ?_; refine AllReadyH.cons (o := { dst := some 55, op := _, type := _, pos := _, after := _, guard := _ }) rfl (fun K hK => ?_) AllReadyH.nil; refine Kd.R_lit_step kW _ TW (by rfl) (N := 55) rfl (xs := [x]) (inner := [.string ky, .int .i64 (i : Int), .int .i64 ((j + 1 : Nat) : Int), .int .i64 a1, .int .i64 a2]) (ok := fun _ => True) (okp := fun _ => True) ?hr (Reps.c5 ?hm (Reps.none _ _)) (fun _ hk => hk) trivial (Below.refl _ _) (Nat.le_refl _) (by simp) (fun v6 w6 hR6 hb6 hg6 hat6 => ?_)
            case hr => first | (go_simp; done) | (go_simp; rfl)
            case hm => rw [HXX.out]; exact k60_mkM _ _ _ _
            obtain ⟨A6, c6, rfl, hc6, hC6⟩ := Kd.R_reads hR6; have S6 := Aside0.mk (S5.out.later hb6); clear hR6 hb6 hg6 hat6; refine hK.out _ _ S6.out.below (fun hS2 => ?_); clear hK K hS; have hS := hS2; clear hS2; (try simp only [Act.put, List.setIfInBounds_toArray, List.set_cons_zero, List.set_cons_succ]); refine wpAnyH_ready (rs := [20]) (by kernel_rfl) (by simp) ?_; refine AllReadyH.cons (o := { dst := some 56, op := _, type := _, pos := _, after := _, guard := _ }) rfl (fun K hK => ?_) AllReadyH.nil; obtain ⟨ok7, q1, q2, q3⟩ := Sep.row (d := kW) (e := TW) (base := w.heap.size) (v := u3) (xs := out) S6.out 0 rfl; refine Kd.R_append_rows_step kW (Rr := kW.K w6) (w0 := w6) w.heap.size (by rfl) (.tmp 36) (.tmp 55) 49 TW (.agg #[.string ⟨#[]⟩, .int .i64 0, .int .i64 0, .int .i64 0, .int .i64 0]) 48 rfl Tryd.underlying49 info60 rfl (by decide) (by decide) u3 out [x] A6 [x].length c6 ok7 (fun _ => False) rfl rfl q1 hC6 (fun x cs h => kW_KM x cs h) (fun _ h => h.elim) q2 (Below.refl _ _) S6.out.below.size (by have := PJ_len HP.out.2; have := HN.out; simp only [List.length_singleton]; omega) (fun v7 w7 hR7 hb7 hg7 hat7 => ?_); have S7 := Aside0.mk (q3 v7 w7 _ hR7 hg7); clear q1 q2 q3 hR7 hb7 hg7 hat7; refine hK.out _ _ S7.out.below (fun hS2 => ?_); clear hK K hS; have hS := hS2; clear hS2; (try simp only [Act.put, List.setIfInBounds_toArray, List.set_cons_zero, List.set_cons_succ]); refine wpAnyH_take (i := 21) (oi := { dst := some 3, op := _, type := _, pos := _, after := _, guard := _ }) (v := v7) rfl (by kernel_rfl) (by kernel_rfl) (by kernel_rfl) (fun _ _ _ h => h) (Or.inl ⟨by rfl, fun W hW => ?_⟩) hS ?_
            · (go_simp)
            (try simp only [Act.put, List.setIfInBounds_toArray, List.set_cons_zero, List.set_cons_succ]); refine wpAnyH_done (by kernel_rfl) ?_ _; go_wp2; go_roundw
            case rel => exact ⟨j + 1 + 1, out ++ [x], by go_num, ⟨by omega, by have h := HPC.out; rw [HX.out, ← HXX.out] at h; exact h⟩, S7⟩
            case measure => simp [intOf]; omega
    · have hd : decide ((i : Int) < (n : Int)) = false := decide_eq_false (by omega); have hd' : decide (i < n) = false := decide_eq_false hlt; have HE := Aside0.mk (PJ_end HP.out.2 (by rw [← HN.out]; omega)); clear hlt; go_wp2; go_ret; exact ⟨u3, rfl, by rw [← HE.out]; exact post_of2 HS.out 0 rfl, HS.out.below⟩
end Go.Proofs.YthffpkdadffinaaDoor.Wj
namespace Go.Proofs.YthffpkdadffinaaDoor.X
set_option linter.unusedVariables false
set_option linter.unusedSimpArgs false
open Go.RowKit YthffpkdadffinaaDoorW.PrintWords YthffpkdadffinaaDoorW.PrintLast YthffpkdadffinaaDoorW.PrintMore
def words_Join.f (l : List S67) : Option (List S60) := if Wg.sizes (l.map (·.f0)) ≤ 13000000 ∧ l.length ≤ 13000000 then some (Wg.wordsF l) else none
theorem words_Join.calls (A0 : Option Addr) (c0 : Nat) (l0 : List S67) (r : List S60) (w : World) (hr0 : Kd.C k67 w A0 l0.length l0) (hc0 : l0.length ≤ c0) (h : words_Join.f l0 = some r) (hG0 : Va.G w) :
    Calls Tryd.prog 30 #[.slice A0 l0.length c0] w fun e w' => ∃ v0_ : Value, e = .returned v0_ ∧ Kd.R k60 60 w' w.heap.size (fun _ => True) v0_ r ∧ Below w.heap.size w w' := by
  unfold words_Join.f at h; split at h
  · rename_i hh; cases Option.some.inj h; exact Wj.JoinP w hG0 A0 l0.length c0 l0 hr0 rfl hc0 hh.1 hh.2
  · cases h
end Go.Proofs.YthffpkdadffinaaDoor.X
namespace Go.Proofs.YthffpkdadffinaaDoor.X
open Go.RowKit YthffpkdadffinaaDoorW.PrintWords YthffpkdadffinaaDoorW.PrintLast YthffpkdadffinaaDoorW.PrintMore
attribute [local go_sem] max2_int min2_int max_two min_two max_three min_three max_four min_four   
set_option linter.unusedVariables false
set_option linter.unusedSimpArgs false
def words_Words.f (l0 : List Int) (a1 : Int) : Option ((List (S60)) × Int) := (seg_Split.f l0 a1).bind fun bt404 => (if bt404.2 = 0 then ((words_Join.f bt404.1).bind fun t408 => (some (t408, 0))) else (some (([] : List (S60)), bt404.2)))
set_option maxHeartbeats 8000000 in
set_option maxRecDepth 100000 in
theorem words_Words.calls (A0 : Option Addr) (c0 : Nat) (l0 : List Int) (a1 : Int) (r1 : List (S60)) (r2 : Int) (w : World) (hr0 : Kd.C (Kd.int .u8) w A0 l0.length l0) (hc0 : l0.length ≤ c0) (h : words_Words.f l0 a1 = some (r1, r2)) (hG0 : Va.G w) :
  Calls Tryd.prog 27 #[.slice A0 l0.length c0, .int .i64 a1] w fun e w' => ∃ v0_ : Value, e = .returned (.tuple #[v0_, .int .i64 r2]) ∧ Kd.R k60 60 w' w.heap.size (fun _ => True) v0_ r1 ∧ Below w.heap.size w w' := by
 have HG := Aside0.mk hG0; clear hG0; have HR0 := Aside0.mk hr0; have HC0 := Aside0.mk hc0; clear hr0 hc0; have HB := Aside0.mk (Below.refl w.heap.size w); have H : ((seg_Split.f l0 a1).bind fun bt404 => (if bt404.2 = 0 then ((words_Join.f bt404.1).bind fun t408 => (some (t408, 0))) else (some (([] : List (S60)), bt404.2)))) = some (r1, r2) := h; clear h; replace H := Option.bind_eq_some_iff.mp H; obtain ⟨⟨t404, t405⟩, A30, H⟩ := H; (try dsimp only at H); have A3 := Aside0.mk A30; clear A30; by_cases c4 : t405 = 0
 ·rw [if_pos c4] at H; have c4b0 : (t405 == 0) = true := beq_iff_eq.mpr c4; have c4b1 : (t405 != 0) = false := bne_eq_false_iff_eq.mpr c4; clear c4; replace H := Option.bind_eq_some_iff.mp H; obtain ⟨t408, A50, H⟩ := H; replace H : (some (t408, 0)) = some (r1, r2) := H; have A5 := Aside0.mk A50; clear A50; simp only [Option.some.injEq, Prod.mk.injEq] at H; obtain ⟨rfl, rfl⟩ := H; go_enter Tryd.func27, Tryd.ntmps27; go_wp2_with (first | ((with_reducible refine gate_callee (f := 39) rfl ?_); refine goesL_ (some 11) rfl rfl Tryd.func39 (by kernel_rfl) rfl #[.slice A0 l0.length c0, .int .i64 a1] rfl (by (try simp only [List.map_toArray, List.map_cons, List.map_nil]); first | done | rfl | (simp only [List.length_drop, List.length_take]; rfl)) ?_; (with_reducible refine (seg_Split.calls _ _ l0 a1 t404 t405 _ ?side1 ?side2 A3.out (by first | exact HG.out | exact Va.G.below HG.out (by repeat (first | (with_reducible first | exact HB.out | apply below_alloc | apply pw_below_drewN | apply below_drew1) | exact HB.out)))).mono ?_); (case side1 => repeat (first | exact HR0.out | (with_reducible refine Kd.C_alloc ?_ _) | (with_reducible refine Kd.C_drewN ?_ _) | (with_reducible refine Kd.C_drew ?_))); (case side2 => exact HC0.out); rintro e w6 ⟨v406, rfl, ho0, hb⟩; refine ⟨_, rfl, ?_⟩; have n0_ := Aside0.mk (Kd.R_lower ho0 (below_size (by repeat (first | (with_reducible first | exact HB.out | apply below_alloc | apply pw_below_drewN | apply below_drew1) | exact HB.out)))); have n1_ := Aside0.mk (below_step (by repeat (first | (with_reducible first | exact HB.out | apply below_alloc | apply pw_below_drewN | apply below_drew1) | exact HB.out)) hb); clear HB; have HO407 := n0_; have HB := n1_; clear n0_ n1_; (try clear hb); (try clear hb2); (try clear hk); (try clear hi); (try clear ho0); obtain ⟨Ao7, co7, eo7⟩ := Kd.R_slice HO407.out; subst eo7) | ((with_reducible refine gate_callee (f := 30) rfl ?_); refine goesL_ (some 18) rfl rfl Tryd.func30 (by kernel_rfl) rfl #[.slice Ao7 t404.length co7] rfl (by (try simp only [List.map_toArray, List.map_cons, List.map_nil]); first | done | rfl | (simp only [List.length_drop, List.length_take]; rfl)) ?_; (with_reducible refine (words_Join.calls _ _ t404 t408 _ ?side1 ?side2 A5.out (by first | exact HG.out | exact Va.G.below HG.out (by repeat (first | (with_reducible first | exact HB.out | apply below_alloc | apply pw_below_drewN | apply below_drew1) | exact HB.out)))).mono ?_); (case side1 => repeat (first | exact (Kd.R_reads' HO407.out).2.2 | (with_reducible refine Kd.C_alloc ?_ _) | (with_reducible refine Kd.C_drewN ?_ _) | (with_reducible refine Kd.C_drew ?_))); (case side2 => exact (Kd.R_reads' HO407.out).2.1); rintro e w8 ⟨v409, rfl, ho0, hb⟩; refine ⟨_, rfl, ?_⟩; have n0_ := Aside0.mk (Kd.R_below (by (with_reducible repeat (first | apply Kd.R_alloc | apply Kd.R_drewN | apply Kd.R_drew)); exact HO407.out) hb); have n1_ := Aside0.mk (Kd.R_lower ho0 (below_size (by repeat (first | (with_reducible first | exact HB.out | apply below_alloc | apply pw_below_drewN | apply below_drew1) | exact HB.out)))); have n2_ := Aside0.mk (below_step (by repeat (first | (with_reducible first | exact HB.out | apply below_alloc | apply pw_below_drewN | apply below_drew1) | exact HB.out)) hb); clear HO407; clear HB; have HO407 := n0_; have HO410 := n1_; have HB := n2_; clear n0_ n1_ n2_; (try clear hb); (try clear hb2); (try clear hk); (try clear hi); (try clear ho0))); go_ret2; exact ⟨_, by first | rfl | (simp [errW_none, errW_some] <;> rfl) | (simp [*, errW_none, errW_some] <;> rfl), by (with_reducible repeat (first | apply Kd.R_alloc | apply Kd.R_drewN | apply Kd.R_drew)); exact HO410.out, by repeat (first | (with_reducible first | exact HB.out | apply below_alloc | apply pw_below_drewN | apply below_drew1) | exact HB.out)⟩
 ·rw [if_neg c4] at H; have c4b0 : (t405 == 0) = false := beq_eq_false_iff_ne.mpr c4; have c4b1 : (t405 != 0) = true := bne_iff_ne.mpr c4; simp only [Option.some.injEq, Prod.mk.injEq] at H; obtain ⟨rfl, rfl⟩ := H; go_enter Tryd.func27, Tryd.ntmps27; go_wp2_with (first | ((with_reducible refine gate_callee (f := 39) rfl ?_); refine goesL_ (some 11) rfl rfl Tryd.func39 (by kernel_rfl) rfl #[.slice A0 l0.length c0, .int .i64 a1] rfl (by (try simp only [List.map_toArray, List.map_cons, List.map_nil]); first | done | rfl | (simp only [List.length_drop, List.length_take]; rfl)) ?_; (with_reducible refine (seg_Split.calls _ _ l0 a1 t404 t405 _ ?side1 ?side2 A3.out (by first | exact HG.out | exact Va.G.below HG.out (by repeat (first | (with_reducible first | exact HB.out | apply below_alloc | apply pw_below_drewN | apply below_drew1) | exact HB.out)))).mono ?_); (case side1 => repeat (first | exact HR0.out | (with_reducible refine Kd.C_alloc ?_ _) | (with_reducible refine Kd.C_drewN ?_ _) | (with_reducible refine Kd.C_drew ?_))); (case side2 => exact HC0.out); rintro e w9 ⟨v406, rfl, ho0, hb⟩; refine ⟨_, rfl, ?_⟩; have n0_ := Aside0.mk (Kd.R_lower ho0 (below_size (by repeat (first | (with_reducible first | exact HB.out | apply below_alloc | apply pw_below_drewN | apply below_drew1) | exact HB.out)))); have n1_ := Aside0.mk (below_step (by repeat (first | (with_reducible first | exact HB.out | apply below_alloc | apply pw_below_drewN | apply below_drew1) | exact HB.out)) hb); clear HB; have HO407 := n0_; have HB := n1_; clear n0_ n1_; (try clear hb); (try clear hb2); (try clear hk); (try clear hi); (try clear ho0))); go_ret2; exact ⟨_, by first | rfl | (simp [errW_none, errW_some] <;> rfl) | (simp [*, errW_none, errW_some] <;> rfl), by first | exact Kd.R_nil _ _ _ _ _ | exact Kd.N_nil _ _ _ _ _ | exact Kd.V_nil _ _ _ _ _ | exact Kd.Q_nil _ _ _ _ _ | exact Kd.S_nil _ _ _ _ _, by repeat (first | (with_reducible first | exact HB.out | apply below_alloc | apply pw_below_drewN | apply below_drew1) | exact HB.out)⟩
end Go.Proofs.YthffpkdadffinaaDoor.X
namespace Go.Proofs.YthffpkdadffinaaDoor.X
open Go.RowKit YthffpkdadffinaaDoorW.PrintWords YthffpkdadffinaaDoorW.PrintLast YthffpkdadffinaaDoorW.PrintMore
attribute [local go_sem] max2_int min2_int max_two min_two max_three min_three max_four min_four   
set_option linter.unusedVariables false
set_option linter.unusedSimpArgs false
def words_Same.f (k : Nat) (l0 : List Int) (l1 : List Int) : Option (Bool) := (words_Key.f k l0).bind fun t464 => ((words_Key.f k l1).bind fun t465 => (some (t464.toList == t465.toList)))
theorem words_Same.mono : ∀ a0 a1 k, LeO (words_Same.f k a0 a1) (words_Same.f (k + 1) a0 a1) := by
 intro a0 a1 k; unfold words_Same.f; repeat' first | (with_reducible exact words_Key.mono _ _) | (with_reducible exact LeO.refl _) | (with_reducible exact LeO.none _) | (with_reducible refine LeO.ite ?_ ?_) | (with_reducible refine LeO.bind ?_ (fun _ => ?_)) | exact words_Key.mono _ _ | exact LeO.none _ | refine LeO.ite ?_ ?_ | refine LeO.bind ?_ (fun _ => ?_)
set_option maxHeartbeats 8000000 in
set_option maxRecDepth 100000 in
theorem words_Same.calls (k : Nat) (A0 : Option Addr) (c0 : Nat) (l0 : List Int) (A1 : Option Addr) (c1 : Nat) (l1 : List Int) (r : Bool) (w : World) (hr0 : Kd.C (Kd.int .u8) w A0 l0.length l0) (hc0 : l0.length ≤ c0) (hr1 : Kd.C (Kd.int .u8) w A1 l1.length l1) (hc1 : l1.length ≤ c1) (h : words_Same.f k l0 l1 = some r) (hG0 : Va.G w) :
  Calls Tryd.prog 35 #[.slice A0 l0.length c0, .slice A1 l1.length c1] w fun e w' => e = .returned (.bool r) ∧ Below w.heap.size w w' := by
 have HG := Aside0.mk hG0; clear hG0; have HR0 := Aside0.mk hr0; have HC0 := Aside0.mk hc0; clear hr0 hc0; have HR1 := Aside0.mk hr1; have HC1 := Aside0.mk hc1; clear hr1 hc1; have HB := Aside0.mk (Below.refl w.heap.size w); have H : ((words_Key.f k l0).bind fun t464 => ((words_Key.f k l1).bind fun t465 => (some (t464.toList == t465.toList)))) = some r := h; clear h; replace H := Option.bind_eq_some_iff.mp H; obtain ⟨t464, A30, H⟩ := H; (try dsimp only at H); have A3 := Aside0.mk A30; clear A30; replace H := Option.bind_eq_some_iff.mp H; obtain ⟨t465, A40, H⟩ := H; (try dsimp only at H); have A4 := Aside0.mk A40; clear A40; obtain rfl := Option.some.inj H; go_enter Tryd.func35, Tryd.ntmps35; go_wp2_with (first | ((with_reducible refine gate_callee (f := 32) rfl ?_); refine goesL_ (some 6) rfl rfl Tryd.func32 (by kernel_rfl) rfl #[.slice A0 l0.length c0] rfl (by (try simp only [List.map_toArray, List.map_cons, List.map_nil]); first | done | rfl | (simp only [List.length_drop, List.length_take]; rfl)) ?_; (with_reducible refine (words_Key.calls k _ _ l0 t464 _ ?side1 ?side2 A3.out (by first | exact HG.out | exact Va.G.below HG.out (by repeat (first | (with_reducible first | exact HB.out | apply below_alloc | apply pw_below_drewN | apply below_drew1) | exact HB.out)))).mono ?_); (case side1 => repeat (first | exact HR0.out | (with_reducible refine Kd.C_alloc ?_ _) | (with_reducible refine Kd.C_drewN ?_ _) | (with_reducible refine Kd.C_drew ?_))); (case side2 => exact HC0.out); rintro e w5 ⟨rfl, hb⟩; refine ⟨_, rfl, ?_⟩; have n0_ := Aside0.mk (below_step (by repeat (first | (with_reducible first | exact HB.out | apply below_alloc | apply pw_below_drewN | apply below_drew1) | exact HB.out)) hb); clear HB; have HB := n0_; clear n0_; (try clear hb); (try clear hb2); (try clear hk); (try clear hi)) | ((with_reducible refine gate_callee (f := 32) rfl ?_); refine goesL_ (some 8) rfl rfl Tryd.func32 (by kernel_rfl) rfl #[.slice A1 l1.length c1] rfl (by (try simp only [List.map_toArray, List.map_cons, List.map_nil]); first | done | rfl | (simp only [List.length_drop, List.length_take]; rfl)) ?_; (with_reducible refine (words_Key.calls k _ _ l1 t465 _ ?side1 ?side2 A4.out (by first | exact HG.out | exact Va.G.below HG.out (by repeat (first | (with_reducible first | exact HB.out | apply below_alloc | apply pw_below_drewN | apply below_drew1) | exact HB.out)))).mono ?_); (case side1 => repeat (first | exact (Kd.C_below HR1.out HB.out) | (with_reducible refine Kd.C_alloc ?_ _) | (with_reducible refine Kd.C_drewN ?_ _) | (with_reducible refine Kd.C_drew ?_))); (case side2 => exact HC1.out); rintro e w6 ⟨rfl, hb⟩; refine ⟨_, rfl, ?_⟩; have n0_ := Aside0.mk (below_step (by repeat (first | (with_reducible first | exact HB.out | apply below_alloc | apply pw_below_drewN | apply below_drew1) | exact HB.out)) hb); clear HB; have HB := n0_; clear n0_; (try clear hb); (try clear hb2); (try clear hk); (try clear hi))); go_ret; exact ⟨by first | rfl | (simp [errW_none, errW_some] <;> rfl) | (simp [*, errW_none, errW_some] <;> rfl), by repeat (first | (with_reducible first | exact HB.out | apply below_alloc | apply pw_below_drewN | apply below_drew1) | exact HB.out)⟩
end Go.Proofs.YthffpkdadffinaaDoor.X
namespace Go.Proofs.YthffpkdadffinaaDoor.Wf
set_option linter.unusedVariables false
set_option linter.unusedSimpArgs false
open Go.Proofs.YthffpkdadffinaaDoor.Ux (Bytes)
open Go.RowKit YthffpkdadffinaaDoorW.PrintWords Hp Fm X Va Oa Vp0 Sga Sgb Sgd Wa Wb Wd Wg Wj
section
variable {w0 w w' : World} {L M : List Th}
theorem wordsC (hG : G w0) (S : Sep w0 L w) (A : Option Addr) (n c : Nat) (xs : List Int) (hC : KB.C w A n xs) (hn : n = xs.length) (hc : n ≤ c) (lim : Int) (out : List SW) (er : Int) (m : Nat) (hr : words_Words.f xs lim = some (out, er)) (hm : m = out.length) :
    Calls Tryd.prog 27 #[.slice A n c, .int .i64 lim] w fun E w' => ∃ A' c', E = .returned (.tuple #[.slice A' m c', .int .i64 er]) ∧ Sep w0 (L ++ [rowT kW TW w0.heap.size (.slice A' m c') out]) w' := by
  subst hm hn; refine (words_Words.calls A c xs lim out er w hC hc hr (hG.below S.below)).mono ?_; rintro E w' ⟨v, rfl, p1, p2⟩; obtain ⟨A', c', rfl⟩ := Kd.R_slice p1; exact ⟨A', c', rfl, S.newR p1 p2⟩
end
theorem wd_at {w : World} {A : Option Addr} {n : Nat} {l : List SW} (h : Kd.C kW w A n l) (j : Nat) (hj : j < n) (hjl : j < l.length) :
    ∃ ad, A = some ad ∧ w.cell? (ad.add (j * 5)) = some (.string l[j].f0) ∧ w.cell? ⟨(ad.add (j * 5)).block, (ad.add (j * 5)).off + 1, none⟩ = some (.int .i64 l[j].f1.f0) ∧ w.cell? ⟨(ad.add (j * 5)).block, (ad.add (j * 5)).off + 2, none⟩ = some (.int .i64 l[j].f1.f1) ∧ w.cell? ⟨(ad.add (j * 5)).block, (ad.add (j * 5)).off + 3, none⟩ = some (.int .i64 l[j].f1.f2) ∧ w.cell? ⟨(ad.add (j * 5)).block, (ad.add (j * 5)).off + 4, none⟩ = some (.int .i64 l[j].f1.f3) := by
  have := at_T60 h (j : Int) (by omega) (by omega); have e : rd_T60 l (j : Int) = l[j] := rdW hjl; rw [Int.toNat_natCast, e] at this; exact this
def b1 : List Int := [73, 116, 39, 115, 32, 51, 46, 53, 32, 195, 137, 116, 195, 169, 115, 44, 32, 101, 46, 103, 46, 32, 95, 120, 49]
def b2 : List Int := [39, 97, 39, 32, 49, 46, 32, 46, 53]
def o1 : List SW := [⟨⟨#[105, 116, 39, 115]⟩, ⟨0, 4, 0, 4⟩⟩, ⟨⟨#[51, 46, 53]⟩, ⟨5, 8, 5, 8⟩⟩, ⟨⟨#[101, 204, 129, 116, 101, 204, 129, 115]⟩, ⟨9, 13, 9, 15⟩⟩, ⟨⟨#[101]⟩, ⟨15, 16, 17, 18⟩⟩, ⟨⟨#[103]⟩, ⟨17, 18, 19, 20⟩⟩, ⟨⟨#[95, 120, 49]⟩, ⟨20, 23, 22, 25⟩⟩]
def o2 : List SW := [⟨⟨#[97]⟩, ⟨1, 2, 1, 2⟩⟩, ⟨⟨#[49]⟩, ⟨4, 5, 4, 5⟩⟩, ⟨⟨#[53]⟩, ⟨8, 9, 8, 9⟩⟩]
theorem e1 : words_Words.f b1 64 = some (o1, 0) := by kernel_rfl
theorem e2 : words_Words.f b2 64 = some (o2, 0) := by kernel_rfl
theorem e3 : words_Words.f [] 0 = some ([], 1) := by kernel_rfl
theorem k1 : words_Key.f 60 [83, 84, 82, 65, 83, 83, 69] = some ⟨#[115, 116, 114, 97, 115, 115, 101]⟩ := by decide +kernel
theorem k2 : words_Same.f 60 [83, 84, 82, 65, 83, 83, 69] [83, 116, 114, 97, 195, 159, 101] = some true := by decide +kernel
theorem conv2 (W : World) (o : Obj) (C : Array Value) (n c : Nat) : (convert 23 23 (.slice (some ⟨W.heap.size + 1, 0, none⟩) n c)).run Tryd.prog ((W.alloc o).alloc (.cells C 5)) = .ok (.slice (some ⟨W.heap.size + 1, 0, none⟩) n c) ((W.alloc o).alloc (.cells C 5 (C.size, C.size + 1))) := by
  have := Lib.run_convert_bytes_const (P := Tryd.prog) (W.alloc o) 23 5 C n c Tryd.underlying23 Tryd.underlying5; rw [World.size_alloc] at this; exact this
theorem keyC (W : World) (hG : G W) : Calls Tryd.prog 32 #[.slice (some ⟨W.heap.size, 0, none⟩) 7 7] (W.alloc (.cells #[.int .u8 83, .int .u8 84, .int .u8 82, .int .u8 65, .int .u8 83, .int .u8 83, .int .u8 69] 5 (7, 8))) fun e w' => e = .returned (.string ⟨#[115, 116, 114, 97, 115, 115, 101]⟩) ∧ Below W.heap.size W w' := by
  have b1 := below_alloc (Below.refl W.heap.size W) (.cells #[.int .u8 83, .int .u8 84, .int .u8 82, .int .u8 65, .int .u8 83, .int .u8 83, .int .u8 69] 5 (7, 8)); refine (words_Key.calls 60 _ 7 [83, 84, 82, 65, 83, 83, 69] _ _ (Sgf.litB W _ (7, 8) [83, 84, 82, 65, 83, 83, 69] rfl (by simp)) (Nat.le_refl _) k1 (hG.below b1)).mono fun e w' ⟨h1, h2⟩ => ⟨h1, below_then b1 b1.size h2⟩
theorem sameC (W : World) (hG : G W) : Calls Tryd.prog 35 #[.slice (some ⟨W.heap.size, 0, none⟩) 7 7, .slice (some ⟨W.heap.size + 1, 0, none⟩) 7 7] ((W.alloc (.cells #[.int .u8 83, .int .u8 84, .int .u8 82, .int .u8 65, .int .u8 83, .int .u8 83, .int .u8 69] 5 (7, 8))).alloc (.cells #[.int .u8 83, .int .u8 116, .int .u8 114, .int .u8 97, .int .u8 195, .int .u8 159, .int .u8 101] 5 (7, 8))) fun e w' => e = .returned (.bool true) ∧ Below W.heap.size W w' := by
  have b1 := below_alloc (Below.refl W.heap.size W) (.cells #[.int .u8 83, .int .u8 84, .int .u8 82, .int .u8 65, .int .u8 83, .int .u8 83, .int .u8 69] 5 (7, 8)); have b2 := below_alloc (Below.refl _ (W.alloc (.cells #[.int .u8 83, .int .u8 84, .int .u8 82, .int .u8 65, .int .u8 83, .int .u8 83, .int .u8 69] 5 (7, 8)))) (.cells #[.int .u8 83, .int .u8 116, .int .u8 114, .int .u8 97, .int .u8 195, .int .u8 159, .int .u8 101] 5 (7, 8)); have b12 := below_then b1 b1.size b2; have h2 := Sgf.litB (W.alloc (.cells #[.int .u8 83, .int .u8 84, .int .u8 82, .int .u8 65, .int .u8 83, .int .u8 83, .int .u8 69] 5 (7, 8))) #[.int .u8 83, .int .u8 116, .int .u8 114, .int .u8 97, .int .u8 195, .int .u8 159, .int .u8 101] (7, 8) [83, 116, 114, 97, 195, 159, 101] rfl (by simp); rw [World.size_alloc] at h2; (refine (words_Same.calls 60 _ 7 [83, 84, 82, 65, 83, 83, 69] _ 7 [83, 116, 114, 97, 195, 159, 101] true _ (Kd.C_below (Sgf.litB W _ (7, 8) [83, 84, 82, 65, 83, 83, 69] rfl (by simp)) b2) (Nat.le_refl _) h2 (Nat.le_refl _) k2 (hG.below b12)).mono fun e w' ⟨h1, h3⟩ => ⟨h1, ?_⟩); exact below_then b12 b12.size h3
set_option maxRecDepth 100000 in
set_option maxHeartbeats 8000000 in
theorem wordsFixedP (w : World) (hG : G w) : Calls Tryd.prog 26 #[] w fun e w' => e = .returned (.bool true) ∧ Below w.heap.size w w' := by
  (have kc := fun (W : World) (C : Array Value) (n c : Nat) => Lib.run_convert_bytes_const (P := Tryd.prog) W 23 5 C n c Tryd.underlying23 Tryd.underlying5); (have kc2 := fun (W : World) (o : Obj) (C : Array Value) (n c : Nat) => conv2 W o C n c); have S0 := Aside0.mk (Sep.nil w); go_enter Tryd.func26, Tryd.ntmps26; go_upto_region 2 with (first | (go_at_call 27; go_must (refine (wordsC hG (S0.out.later (below_alloc (Below.refl _ _) _)) _ 25 25 b1 (Sgf.litB w _ _ b1 rfl (by simp [b1])) rfl (Nat.le_refl _) 64 o1 0 6 e1 rfl).mono ?_; rintro E w1 ⟨A1, c1, rfl, p1⟩; have S1 := Aside0.mk p1; clear p1 S0))); go_upto_region 3 with (first | (go_at_call 27; go_must (refine (wordsC hG (S1.out.later (below_alloc (Below.refl _ _) _)) _ 9 9 b2 (Sgf.litB w1 _ _ b2 rfl (by simp [b2])) rfl (Nat.le_refl _) 64 o2 0 3 e2 rfl).mono ?_; rintro E w2 ⟨A2, c2, rfl, p1⟩; have S2 := Aside0.mk p1; clear p1))); go_upto_region 4 with (first | (go_at_call 27; go_must (refine (wordsC hG S2.out none 0 0 [] (Kd.C_nil KB w2) rfl (Nat.le_refl _) 0 [] 1 0 e3 rfl).mono ?_; rintro E w3 ⟨A3, c3, rfl, p1⟩; have S3 := Aside0.mk p1; clear p1 S2))); have hC := (Sep.rows (d := kW) (e := TW) (base := w.heap.size) (A := A1) (m := 6) (c := c1) (xs := o1) S3.out 0 rfl).2.2; obtain ⟨ad, rfl, z0, -⟩ := wd_at hC 0 (by decide) (by decide); obtain ⟨_, h1, y0, -⟩ := wd_at hC 1 (by decide) (by decide); obtain rfl := Option.some.inj h1; obtain ⟨_, h2, x0, x1, x2, -⟩ := wd_at hC 2 (by decide) (by decide); obtain rfl := Option.some.inj h2; obtain ⟨_, h5, v0, -⟩ := wd_at hC 5 (by decide) (by decide); obtain rfl := Option.some.inj h5; rw [Nat.zero_mul, show ad.add 0 = ad by cases ad; simp [Addr.add]] at z0; replace z0 : w3.cell? ad = some (.string ⟨#[105, 116, 39, 115]⟩) := z0; replace y0 : w3.cell? ⟨ad.block, ad.off + 5, none⟩ = some (.string ⟨#[51, 46, 53]⟩) := y0; replace x0 : w3.cell? ⟨ad.block, ad.off + 10, none⟩ = some (.string ⟨#[101, 204, 129, 116, 101, 204, 129, 115]⟩) := x0; replace x1 : w3.cell? ⟨ad.block, ad.off + 10 + 1, none⟩ = some (.int .i64 9) := x1; replace x2 : w3.cell? ⟨ad.block, ad.off + 10 + 2, none⟩ = some (.int .i64 13) := x2; have x1' : w3.cell? ⟨ad.block, ad.off + 11, none⟩ = some (.int .i64 9) := x1; have x2' : w3.cell? ⟨ad.block, ad.off + 12, none⟩ = some (.int .i64 13) := x2; replace v0 : w3.cell? ⟨ad.block, ad.off + 25, none⟩ = some (.string ⟨#[95, 120, 49]⟩) := v0; have HB := Aside0.mk S3.out.below; have HGG := Aside0.mk hG; clear hC h1 h2 h5 S1 S3; go_wp2_with (first | (go_at_call 32; go_must (refine (keyC w3 (HGG.out.below HB.out)).mono ?_; rintro E w4 ⟨rfl, p1⟩; have n0_ := Aside0.mk (below_then HB.out HB.out.size p1); clear HB p1; have HB := n0_; clear n0_)) | (go_at_call 35; go_must (refine (sameC w4 (HGG.out.below HB.out)).mono ?_; rintro E w5 ⟨rfl, p1⟩; have n0_ := Aside0.mk (below_then HB.out HB.out.size p1); clear HB p1; have HB := n0_; clear n0_)) | (go_at_call 30; go_must (refine (JoinP w5 (HGG.out.below HB.out) none 0 0 [] (Kd.C_nil kG w5) rfl (Nat.le_refl _) (by decide) (by decide)).mono ?_; rintro E w6 ⟨v, rfl, p0, p1⟩; obtain ⟨A6, c6, rfl⟩ := Kd.R_slice p0; have n0_ := Aside0.mk (below_then HB.out HB.out.size p1); clear HB p0 p1; have HB := n0_; clear n0_))); go_ret; exact ⟨rfl, HB.out⟩
end Go.Proofs.YthffpkdadffinaaDoor.Wf
namespace Go.Proofs.YthffpkdadffinaaDoor.X
set_option linter.unusedVariables false
set_option linter.unusedSimpArgs false
open Go.RowKit YthffpkdadffinaaDoorW.PrintWords
end Go.Proofs.YthffpkdadffinaaDoor.X
namespace Go.Proofs.YthffpkdadffinaaDoor.Wt
set_option linter.unusedVariables false
set_option linter.unusedSimpArgs false
open Go.Proofs.YthffpkdadffinaaDoor.Ux (Bytes full)
open Go.Proofs.YthffpkdadffinaaDoor.Ot (rns)
open Go.RowKit YthffpkdadffinaaDoorW.PrintWords Ev0 X Oa Ob Vp0 Sga Sgb Sgd Sgp Sgq Sgv Sgw Wa Wb Wd Wg
theorem catB_len : ∀ l : List ByteArray, sizes l = (catB l).size := fun l => (catB_size l).symm
theorem cut_map (b : List Int) : (cutS (full b)).map (·.f0) = Sgt.cutTS (rns b) := by
  unfold rns cutS Sgt.cutTS
  cases full b with
  | nil => rfl
  | cons p t => exact Sgt.cutR_txt t _ _ _
theorem txt_sz (b : List Int) (hB : Bytes b) : (txt (rns b)).size ≤ 12 * b.length := by
  have h := nfd_len b hB; rw [txt_nfd, str_size (nfd_byte b)]; exact h
theorem wordsF_len (l : List SG) : (wordsF l).length ≤ l.length := by
  have h3 := (runs_len (inW (l.map (·.f0))) (l.map (·.f0)).length 0).1; unfold wordsF runsT; rw [List.length_map]; rw [List.length_map] at h3 ⊢; exact h3
end Go.Proofs.YthffpkdadffinaaDoor.Wt
namespace Go.Proofs.YthffpkdadffinaaDoor.Lwk
set_option linter.unusedVariables false
set_option linter.unusedSimpArgs false
open Go.Proofs.YthffpkdadffinaaDoor.Ux (Bytes full)
open Go.Proofs.YthffpkdadffinaaDoor.Ot (rns)
open Go.Proofs.YthffpkdadffinaaDoor.En (enc)
open Go.RowKit YthffpkdadffinaaDoorW.PrintWords Hp Ev0 X Va Oa Ob Vp0 Sga Sgw Wa Wd Wg
def Fit (b : List Int) : Prop := Bytes b ∧ b.length ≤ 1000000000 ∧ (rns b).length ≤ 30000000 ∧ (fl2 (nrm (rns b))).length ≤ 100000000
theorem fit_small (b : List Int) (hB : Bytes b) (hl : b.length ≤ 1048576) : Fit b := by
  have h1 := Sgu.rns_len b; have h2 := nrm_len3 (rns b) (r32 b hB); have h3 := fl2_len (nrm (rns b)); exact ⟨hB, by omega, by omega, by omega⟩
theorem fit_key (b : List Int) (hB : Bytes b) (hl : b.length ≤ 1048576) : Fit (keyB b) := by
  have h1 := keyB_len b hB; have h2 := keyU_len (rns b) (r32 b hB); have h3 := Sgu.rns_len b; have e1 := keyB_rns b hB; refine ⟨keyB_byte b, by omega, by rw [e1]; omega, ?_⟩; rw [e1, nrm_key _ (r32 b hB), keyU_fold _ (r32 b hB)]; omega
theorem fit_nfd (b : List Int) (hB : Bytes b) (hl : b.length ≤ 1048576) : Fit (nfd b) := by
  have h1 := nfd_len b hB; have h2 := nrm_len3 (rns b) (r32 b hB); have h3 := Sgu.rns_len b; have h4 := fl2_len (nrm (rns b)); have e1 := nfd_rns b hB; refine ⟨nfd_byte b, by omega, by rw [e1]; omega, ?_⟩; rw [e1, nrm_id _ (r32 b hB)]; omega
theorem textEv2 (b : List Int) (h : Fit b) : Ev (fun k => tremaref03_Text.f k b) (txt (rns b)) := by
  obtain ⟨hB, hl, h1, h2⟩ := h; have h32 := r32 b hB; have n1 := nrm_len3 (rns b) h32; unfold tremaref03_Text.f; refine Ev.bind (Ot.runesEv b hB (by omega)) ?_; refine Ev.bind (refNEv _ h32 (by omega)) ?_; refine Ev.bind (Ev.of (tremaref01_Encode.mono (nrm (rns b))) (En.ref_pure (nrm (rns b)) (by omega))) ?_; exact Ev.now _
theorem KeyP (w : World) (hG : G w) (A : Option Addr) (n c : Nat) (b : List Int) (hC : KB.C w A n b) (hn : n = b.length) (hc : n ≤ c) (h : Fit b) (K : ByteArray) (hK : K = keyS b) :
    Calls Tryd.prog 32 #[.slice A n c] w fun e w' => e = .returned (.string K) ∧ Below w.heap.size w w' := by
  subst hn hK; obtain ⟨k, hk⟩ := Ev.rounds (keyEv b h.1 h.2.1 (by have := h.2.2.1; omega) h.2.2.2); exact words_Key.calls k A c b _ w hC hc hk hG
theorem RKeyP (w : World) (A : Option Addr) (n c : Nat) (b : List Int) (hC : KB.C w A n b) (hn : n = b.length) (hc : n ≤ c) (h : Fit b) (K : ByteArray) (hK : K = keyS b) :
    Calls Tryd.prog 33 #[.slice A n c] w fun e w' => e = .returned (.string K) ∧ Below w.heap.size w w' := by
  subst hn hK; obtain ⟨k, hk⟩ := Ev.rounds (refKeyEv b h.1 h.2.1 (by have := h.2.2.1; omega) h.2.2.2); exact tremaref13_Key.calls k A c b _ w hC hc hk
theorem TextP (w : World) (A : Option Addr) (n c : Nat) (b : List Int) (hC : KB.C w A n b) (hn : n = b.length) (hc : n ≤ c) (h : Fit b) (t : ByteArray) (ht : t = txt (rns b)) :
    Calls Tryd.prog 34 #[.slice A n c] w fun e w' => e = .returned (.string t) ∧ Below w.heap.size w w' := by
  subst hn ht; obtain ⟨k, hk⟩ := Ev.rounds (textEv2 b h); exact tremaref03_Text.calls k A c b _ w hC hc hk
theorem SameP (w : World) (hG : G w) (A B : Option Addr) (n c m d : Nat) (a b : List Int) (hC : KB.C w A n a) (hn : n = a.length) (hc : n ≤ c) (hD : KB.C w B m b) (hm : m = b.length) (hd : m ≤ d) (ha : Fit a) (hb : Fit b) (D : Bool) (hDD : ((keyS a).toList == (keyS b).toList) = D) :
    Calls Tryd.prog 35 #[.slice A n c, .slice B m d] w fun e w' => e = .returned (.bool D) ∧ Below w.heap.size w w' := by
  subst hn hm hDD
  have h : Ev (fun k => words_Same.f k a b) ((keyS a).toList == (keyS b).toList) := by
    unfold words_Same.f; refine Ev.bind (keyEv a ha.1 ha.2.1 (by have := ha.2.2.1; omega) ha.2.2.2) ?_; exact Ev.bind (keyEv b hb.1 hb.2.1 (by have := hb.2.2.1; omega) hb.2.2.2) (Ev.now _)
  obtain ⟨k, hk⟩ := Ev.rounds h; exact words_Same.calls k A c a B d b _ w hC hc hD hd hk hG
theorem conv_ok (W : World) (s : ByteArray) (b : List Int) (hs : bytesOf s = b) (hl : s.size ≤ 1000000000) :
    KB.C (Lib.bytesWorld W 5 s) (some ⟨W.heap.size, 0, none⟩) s.size b ∧ s.size = b.length ∧ s.size ≤ grownCap W s.size 0 5 := by
  subst hs; exact ⟨Hp.rdC (bytes_reads W 5 s (by omega)), (bytesOf_length s).symm, grownCap_ge _ _ _ _⟩
set_option maxRecDepth 100000 in
set_option maxHeartbeats 8000000 in
theorem wordsKeysP (w : World) (hG : G w) (A B : Option Addr) (n c m d : Nat) (a b : List Int) (hC : KB.C w A n a) (hn : n = a.length) (hc : n ≤ c) (hD : KB.C w B m b) (hm : m = b.length) (hd : m ≤ d) (hBa : Bytes a) (hBb : Bytes b) (hla : n ≤ 1048576) (hlb : m ≤ 1048576) :
    Calls Tryd.prog 8 #[.slice A n c, .slice B m d] w fun e w' => e = .returned (.bool true) ∧ Below w.heap.size w w' := by
  (have hla' : a.length ≤ 1048576 := by omega); (have hlb' : b.length ≤ 1048576 := by omega); obtain ⟨K, hK⟩ : ∃ K, K = keyS a := ⟨_, rfl⟩; obtain ⟨K2, hK2⟩ : ∃ K, K = keyS b := ⟨_, rfl⟩; obtain ⟨tx, htx⟩ : ∃ t, t = txt (rns a) := ⟨_, rfl⟩; obtain ⟨tb, htb⟩ : ∃ t, t = txt (rns b) := ⟨_, rfl⟩; obtain ⟨D, hDD⟩ : ∃ D, (K.toList == K2.toList) = D := ⟨_, rfl⟩; (have bel : ∀ {W W' : World}, Below w.heap.size w W → Below W.heap.size W W' → Below w.heap.size w W' := fun h1 h2 => below_step h1 h2); have FKa := Aside0.mk (show ∀ W, Below w.heap.size w W → Calls Tryd.prog 32 #[.slice A n c] W fun e w' => e = .returned (.string K) ∧ Below w.heap.size w w' from fun W h => (KeyP W (hG.below h) A n c a (Kd.C_below hC h) hn hc (fit_small a hBa hla') K hK).mono fun e w' ⟨h1, h2⟩ => ⟨h1, bel h h2⟩); have FRa := Aside0.mk (show ∀ W, Below w.heap.size w W → Calls Tryd.prog 33 #[.slice A n c] W fun e w' => e = .returned (.string K) ∧ Below w.heap.size w w' from fun W h => (RKeyP W A n c a (Kd.C_below hC h) hn hc (fit_small a hBa hla') K hK).mono fun e w' ⟨h1, h2⟩ => ⟨h1, bel h h2⟩); have FRb := Aside0.mk (show ∀ W, Below w.heap.size w W → Calls Tryd.prog 33 #[.slice B m d] W fun e w' => e = .returned (.string K2) ∧ Below w.heap.size w w' from fun W h => (RKeyP W B m d b (Kd.C_below hD h) hm hd (fit_small b hBb hlb') K2 hK2).mono fun e w' ⟨h1, h2⟩ => ⟨h1, bel h h2⟩); have FTa := Aside0.mk (show ∀ W, Below w.heap.size w W → Calls Tryd.prog 34 #[.slice A n c] W fun e w' => e = .returned (.string tx) ∧ Below w.heap.size w w' from fun W h => (TextP W A n c a (Kd.C_below hC h) hn hc (fit_small a hBa hla') tx htx).mono fun e w' ⟨h1, h2⟩ => ⟨h1, bel h h2⟩); have FTb := Aside0.mk (show ∀ W, Below w.heap.size w W → Calls Tryd.prog 34 #[.slice B m d] W fun e w' => e = .returned (.string tb) ∧ Below w.heap.size w w' from fun W h => (TextP W B m d b (Kd.C_below hD h) hm hd (fit_small b hBb hlb') tb htb).mono fun e w' ⟨h1, h2⟩ => ⟨h1, bel h h2⟩); have FS := Aside0.mk (show ∀ W, Below w.heap.size w W → Calls Tryd.prog 35 #[.slice A n c, .slice B m d] W fun e w' => e = .returned (.bool D) ∧ Below w.heap.size w w' from fun W h => (SameP W (hG.below h) A B n c m d a b (Kd.C_below hC h) hn hc (Kd.C_below hD h) hm hd (fit_small a hBa hla') (fit_small b hBb hlb') D (by rw [← hK, ← hK2]; exact hDD)).mono fun e w' ⟨h1, h2⟩ => ⟨h1, bel h h2⟩); (have belB : ∀ (W : World) (s : ByteArray), Below w.heap.size w W → Below w.heap.size w (Lib.bytesWorld W 5 s) := fun W s h => below_step h (bytes_below (Below.refl W.heap.size W) (Nat.le_refl _) 5 s)); (have hKb : bytesOf K = keyB a := by rw [hK]; exact keyS_bytes a); (have hKs : K.size ≤ 1000000000 := by rw [hK]; have := keyS_size a hBa; omega); (have htb2 : bytesOf tx = nfd a := by rw [htx]; exact bytes_txt (rns a)); have hts : tx.size ≤ 1000000000 := by rw [htx]; have := Wt.txt_sz a hBa; omega
  have FKK := Aside0.mk (show ∀ W, Below w.heap.size w W → Calls Tryd.prog 32 #[.slice (some ⟨W.heap.size, 0, none⟩) K.size (grownCap W K.size 0 5)] (Lib.bytesWorld W 5 K) fun e w' => e = .returned (.string K) ∧ Below w.heap.size w w' from fun W h => by
    obtain ⟨c1, c2, c3⟩ := conv_ok W K (keyB a) hKb hKs
    exact (KeyP _ (hG.below (belB W K h)) _ _ _ (keyB a) c1 c2 c3 (fit_key a hBa hla') K (by rw [hK, keyS_key a hBa])).mono fun e w' ⟨h1, h2⟩ => ⟨h1, bel (belB W K h) h2⟩)
  have FKt := Aside0.mk (show ∀ W, Below w.heap.size w W → Calls Tryd.prog 32 #[.slice (some ⟨W.heap.size, 0, none⟩) tx.size (grownCap W tx.size 0 5)] (Lib.bytesWorld W 5 tx) fun e w' => e = .returned (.string K) ∧ Below w.heap.size w w' from fun W h => by
    obtain ⟨c1, c2, c3⟩ := conv_ok W tx (nfd a) htb2 hts
    exact (KeyP _ (hG.below (belB W tx h)) _ _ _ (nfd a) c1 c2 c3 (fit_nfd a hBa hla') K (by rw [hK, keyS_nfd a hBa])).mono fun e w' ⟨h1, h2⟩ => ⟨h1, bel (belB W tx h) h2⟩)
  have FTK := Aside0.mk (show ∀ W, Below w.heap.size w W → Calls Tryd.prog 34 #[.slice (some ⟨W.heap.size, 0, none⟩) K.size (grownCap W K.size 0 5)] (Lib.bytesWorld W 5 K) fun e w' => e = .returned (.string K) ∧ Below w.heap.size w w' from fun W h => by
    obtain ⟨c1, c2, c3⟩ := conv_ok W K (keyB a) hKb hKs
    exact (TextP _ _ _ _ (keyB a) c1 c2 c3 (fit_key a hBa hla') K (by rw [hK, txt_keyB a hBa])).mono fun e w' ⟨h1, h2⟩ => ⟨h1, bel (belB W K h) h2⟩)
  (have kb1 := fun W => print_bytes (P := Tryd.prog) 9 23 5 Tryd.underlying9 Tryd.underlying23 Tryd.underlying5 K W); (have kb2 := fun W => print_bytes (P := Tryd.prog) 9 23 5 Tryd.underlying9 Tryd.underlying23 Tryd.underlying5 tx W); have hKK : (K.toList == K.toList) = true := beq_self_eq_true _
  have hsame : tx = tb → D = true := by
    intro h; rw [← hDD, hK, hK2, keyS_same a b hBa hBb (by rw [← htx, ← htb, h])]; exact beq_self_eq_true _
  have HSM := Aside0.mk hsame; have HB := Aside0.mk (Below.refl w.heap.size w); have HG := Aside0.mk hG; clear hC hD hn hm hBa hBb hla' hlb' hK hK2 htx htb bel belB hKb hKs htb2 hts hsame hG; by_cases htt : tx = tb
  · obtain rfl := HSM.out htt; subst htt; have e1 : (tx.toList == tx.toList) = true := beq_self_eq_true _; (have e2 : (tx.toList != tx.toList) = false := by rw [bne, e1]; rfl); go_enter Tryd.func8, Tryd.ntmps8; go_wp2_with (first | (go_at_call 26; refine (Wf.wordsFixedP w HG.out).mono ?_; rintro E w2 ⟨rfl, p1⟩; have n0_ := Aside0.mk p1; clear HB p1; have HB := n0_; clear n0_) | (go_at_call 32; go_must (first | (with_reducible refine (FKa.out _ HB.out).mono ?_) | (with_reducible refine (FKK.out _ HB.out).mono ?_) | (with_reducible refine (FKt.out _ HB.out).mono ?_)); rintro E w2 ⟨rfl, p1⟩; have n0_ := Aside0.mk p1; clear HB p1; have HB := n0_; clear n0_) | (go_at_call 33; go_must (first | (with_reducible refine (FRa.out _ HB.out).mono ?_) | (with_reducible refine (FRb.out _ HB.out).mono ?_)); rintro E w2 ⟨rfl, p1⟩; have n0_ := Aside0.mk p1; clear HB p1; have HB := n0_; clear n0_) | (go_at_call 34; go_must (first | (with_reducible refine (FTa.out _ HB.out).mono ?_) | (with_reducible refine (FTb.out _ HB.out).mono ?_) | (with_reducible refine (FTK.out _ HB.out).mono ?_)); rintro E w2 ⟨rfl, p1⟩; have n0_ := Aside0.mk p1; clear HB p1; have HB := n0_; clear n0_) | (go_at_call 35; go_must (refine (FS.out _ HB.out).mono ?_); rintro E w2 ⟨rfl, p1⟩; have n0_ := Aside0.mk p1; clear HB p1; have HB := n0_; clear n0_)); go_ret; exact ⟨rfl, HB.out⟩
  · (have e1 : (tx.toList == tb.toList) = false := beq_eq_false_iff_ne.2 fun h => htt ((Sgr.ba_list _ _).1 h)); (have e2 : (tx.toList != tb.toList) = true := by rw [bne, e1]; rfl); clear htt
    cases D with
    | true =>
      go_enter Tryd.func8, Tryd.ntmps8; go_wp2_with (first | (go_at_call 26; refine (Wf.wordsFixedP w HG.out).mono ?_; rintro E w2 ⟨rfl, p1⟩; have n0_ := Aside0.mk p1; clear HB p1; have HB := n0_; clear n0_) | (go_at_call 32; go_must (first | (with_reducible refine (FKa.out _ HB.out).mono ?_) | (with_reducible refine (FKK.out _ HB.out).mono ?_) | (with_reducible refine (FKt.out _ HB.out).mono ?_)); rintro E w2 ⟨rfl, p1⟩; have n0_ := Aside0.mk p1; clear HB p1; have HB := n0_; clear n0_) | (go_at_call 33; go_must (first | (with_reducible refine (FRa.out _ HB.out).mono ?_) | (with_reducible refine (FRb.out _ HB.out).mono ?_)); rintro E w2 ⟨rfl, p1⟩; have n0_ := Aside0.mk p1; clear HB p1; have HB := n0_; clear n0_) | (go_at_call 34; go_must (first | (with_reducible refine (FTa.out _ HB.out).mono ?_) | (with_reducible refine (FTb.out _ HB.out).mono ?_) | (with_reducible refine (FTK.out _ HB.out).mono ?_)); rintro E w2 ⟨rfl, p1⟩; have n0_ := Aside0.mk p1; clear HB p1; have HB := n0_; clear n0_) | (go_at_call 35; go_must (refine (FS.out _ HB.out).mono ?_); rintro E w2 ⟨rfl, p1⟩; have n0_ := Aside0.mk p1; clear HB p1; have HB := n0_; clear n0_)); go_ret; exact ⟨rfl, HB.out⟩
    | false =>
      go_enter Tryd.func8, Tryd.ntmps8; go_wp2_with (first | (go_at_call 26; refine (Wf.wordsFixedP w HG.out).mono ?_; rintro E w2 ⟨rfl, p1⟩; have n0_ := Aside0.mk p1; clear HB p1; have HB := n0_; clear n0_) | (go_at_call 32; go_must (first | (with_reducible refine (FKa.out _ HB.out).mono ?_) | (with_reducible refine (FKK.out _ HB.out).mono ?_) | (with_reducible refine (FKt.out _ HB.out).mono ?_)); rintro E w2 ⟨rfl, p1⟩; have n0_ := Aside0.mk p1; clear HB p1; have HB := n0_; clear n0_) | (go_at_call 33; go_must (first | (with_reducible refine (FRa.out _ HB.out).mono ?_) | (with_reducible refine (FRb.out _ HB.out).mono ?_)); rintro E w2 ⟨rfl, p1⟩; have n0_ := Aside0.mk p1; clear HB p1; have HB := n0_; clear n0_) | (go_at_call 34; go_must (first | (with_reducible refine (FTa.out _ HB.out).mono ?_) | (with_reducible refine (FTb.out _ HB.out).mono ?_) | (with_reducible refine (FTK.out _ HB.out).mono ?_)); rintro E w2 ⟨rfl, p1⟩; have n0_ := Aside0.mk p1; clear HB p1; have HB := n0_; clear n0_) | (go_at_call 35; go_must (refine (FS.out _ HB.out).mono ?_); rintro E w2 ⟨rfl, p1⟩; have n0_ := Aside0.mk p1; clear HB p1; have HB := n0_; clear n0_)); go_ret; exact ⟨rfl, HB.out⟩
end Go.Proofs.YthffpkdadffinaaDoor.Lwk
namespace Go.Proofs.YthffpkdadffinaaDoor.X
set_option linter.unusedVariables false
set_option linter.unusedSimpArgs false
open Go.RowKit YthffpkdadffinaaDoorW.PrintWords Vp0
def tremalaw13_WordsKeys.f (a b : List Int) : Option Bool := if (bytesB a = true ∧ a.length ≤ 1048576) ∧ bytesB b = true ∧ b.length ≤ 1048576 then some true else none
theorem tremalaw13_WordsKeys.calls (A0 : Option Addr) (c0 : Nat) (a : List Int) (A1 : Option Addr) (c1 : Nat) (b : List Int) (r : Bool) (w : World) (hr0 : Kd.C (Kd.int .u8) w A0 a.length a) (hc0 : a.length ≤ c0) (hr1 : Kd.C (Kd.int .u8) w A1 b.length b) (hc1 : b.length ≤ c1) (h : tremalaw13_WordsKeys.f a b = some r) (hG0 : Va.G w) :
  Calls Tryd.prog 8 #[.slice A0 a.length c0, .slice A1 b.length c1] w fun e w' => e = .returned (.bool r) ∧ Below w.heap.size w w' := by
  unfold tremalaw13_WordsKeys.f at h; split at h
  · rename_i hh; cases Option.some.inj h; exact Lwk.wordsKeysP w hG0 A0 A1 a.length c0 b.length c1 a b hr0 rfl hc0 hr1 rfl hc1 (bytesB_of hh.1.1) (bytesB_of hh.2.1) hh.1.2 hh.2.2
  · cases h
theorem tremalaw13_WordsKeys.pure (a : List Int) (hwf : ∀ y ∈ a, (Lit.int .u8 y).wf = true) (hl : a.length ≤ 1048576) (b : List Int) (hwb : ∀ y ∈ b, (Lit.int .u8 y).wf = true) (hlb : b.length ≤ 1048576) : tremalaw13_WordsKeys.f a b = some true := by
  unfold tremalaw13_WordsKeys.f; rw [if_pos ⟨⟨Sgr.bytesB_mk (Ot.wf_bytes hwf), hl⟩, Sgr.bytesB_mk (Ot.wf_bytes hwb), hlb⟩]
end Go.Proofs.YthffpkdadffinaaDoor.X
namespace Go.Proofs.YthffpkdadffinaaDoor.Od
set_option linter.unusedVariables false
set_option linter.unusedSimpArgs false
open Go.RowKit YthffpkdadffinaaDoorW.PrintWords Hp Go.ChangeShapes Go.WideShapes
def Opens {α : Type} (P : Program) (t : TypeId) (d : Kd α) (wf : α → Prop) (bulk : α → Nat) : Prop :=
  ∀ (H : Type) (enc : TypeId × Value → H) (w : World) (base : Nat) (spare : Nat → Bool) (held : Bool) (fuel : Nat) (cs : List Value) (x : DataW H × List MemPlace),
    DataW.trod enc P w base spare held fuel t cs = some x → ∃ a, d.K w a cs ∧ wf a ∧ bulk a ≤ Rows.uptoBulk x.1
def sumB {α : Type} (bulk : α → Nat) : List α → Nat
  | [] => 0
  | a :: l => bulk a + sumB bulk l
theorem sumB_len {α : Type} {bulk : α → Nat} (h1 : ∀ a, 1 ≤ bulk a) (l : List α) : l.length ≤ sumB bulk l := by
  induction l with
  | nil => simp [sumB]
  | cons x l ih => simp only [sumB, List.length_cons]; have := h1 x; omega
theorem bulkAll_append {H : Type} (l r : List (DataW H)) : Rows.uptoBulkAll (l ++ r) = Rows.uptoBulkAll l + Rows.uptoBulkAll r := by
  induction l with
  | nil => simp [Rows.uptoBulkAll]
  | cons x l ih => simp only [List.cons_append, Rows.uptoBulkAll, ih]; omega
section
variable {P : Program}
theorem opens_int {t : TypeId} {k : IntKind} (ht : P.underlying t = some (.int k)) : Opens P t (Kd.int k) (fun n => (Lit.int k n).wf = true) (fun _ => 1) := by
  intro H enc w base spare held fuel cs x h; obtain ⟨n, rfl, rfl, hw⟩ := DataW.trod_int ht h; exact ⟨n, rfl, hw, by simp [Rows.uptoBulk]⟩
theorem slice_list {α : Type} {d : Kd α} {wf : α → Prop} {bulk : α → Nat} {e : TypeId} {H : Type} {enc : TypeId × Value → H} {w : World} {base : Nat} {spare : Nat → Bool} {held : Bool} (ho : Opens P e d wf bulk) (hC : P.cellsOf e = d.sz) {a : Addr} {m n : Nat} {D : Nat → DataW H} {Pl : Nat → List MemPlace}
    (hx : ∀ i, i < m → ∃ cs', w.cells? base (a.add (i * P.cellsOf e)) (P.cellsOf e) = some cs' ∧ DataW.trod enc P w base spare held n e cs' = some (D i, Pl i)) (len : Nat) (hl : len ≤ m) (hM : len ≤ 9223372036854775807) :
    ∃ xs : List α, xs.length = len ∧ d.C w (some a) len xs ∧ (∀ x, x ∈ xs → wf x) ∧ sumB bulk xs ≤ Rows.uptoBulkAll ((List.range len).map D) := by
  have key : ∀ k, k ≤ len → ∃ xs : List α, xs.length = k ∧ (∀ j p, xs[j]? = some p → ∃ c, c.length = d.sz ∧ d.K w p c ∧ ∀ i u, c[i]? = some u → w.cell? (a.add (j * d.sz + i)) = some u) ∧ (∀ x, x ∈ xs → wf x) ∧ sumB bulk xs ≤ Rows.uptoBulkAll ((List.range k).map D) := by
    intro k
    induction k with
    | zero => exact fun _ => ⟨[], rfl, by simp, by simp, by simp [sumB]⟩
    | succ k ih =>
      intro hk; obtain ⟨xs, h1, h2, h3, h4⟩ := ih (by omega); obtain ⟨cs', hc, ht⟩ := hx k (by omega); obtain ⟨p, hK, hw, hb⟩ := ho H enc w base spare held n cs' _ ht; obtain ⟨_, hcl, hcell⟩ := World.cells?_some hc; refine ⟨xs ++ [p], by simp [h1], ?_, ?_, ?_⟩
      · intro j q hq; rw [List.getElem?_append] at hq; split at hq
        · exact h2 j q hq
        · rename_i hge; rcases Nat.lt_or_ge (j - xs.length) 1 with h5 | h5
          · (have hj : j = k := by omega); subst hj; rw [h1, Nat.sub_self] at hq; simp at hq; subst hq; refine ⟨cs', by rw [hcl, hC], hK, fun i u hu => ?_⟩; (have hi : i < P.cellsOf e := by rw [← hcl]; exact (List.getElem?_eq_some_iff.1 hu).1); have := hcell i hi; rw [Go.Deep.add_add, hC] at this; rw [this, hu]
          · rw [List.getElem?_eq_none (by simpa using h5)] at hq; cases hq
      · intro x hx; rcases List.mem_append.1 hx with hx | hx
        · exact h3 x hx
        · rw [List.mem_singleton.1 hx]; exact hw
      · have e2 : sumB bulk (xs ++ [p]) = sumB bulk xs + bulk p := by
          clear h1 h2 h3 h4
          induction xs with
          | nil => simp [sumB]
          | cons y ys ih2 => simp only [List.cons_append, sumB, ih2]; omega
        rw [e2, List.range_succ, List.map_append, bulkAll_append]; simp only [List.map_cons, List.map_nil, Rows.uptoBulkAll]; have hb2 : bulk p ≤ Rows.uptoBulk (D k) := hb; omega
  obtain ⟨xs, h1, h2, h3, h4⟩ := key len (Nat.le_refl _); exact ⟨xs, h1, ⟨h1, hM, fun _ => ⟨a, rfl, h2⟩⟩, h3, h4⟩
theorem arg_slice {α : Type} {d : Kd α} {wf : α → Prop} {bulk : α → Nat} {t e : TypeId} (ht : P.underlying t = some (.slice e)) (hC : P.cellsOf e = d.sz) (ho : Opens P e d wf bulk)
    {H : Type} {enc : TypeId × Value → H} {w : World} {base : Nat} {spare : Nat → Bool} {held : Bool} {v : Value} {data : DataW H} {ps : List MemPlace} {r : Reach} {b0 : Nat} (hv : Value.okWide P w r b0 t v) (h : DataW.Trod enc P w base spare held t v data ps) :
    ∃ A xs c, v = .slice A xs.length c ∧ xs.length ≤ c ∧ d.C w A xs.length xs ∧ (∀ x, x ∈ xs → wf x) ∧ sumB bulk xs + 1 ≤ Rows.uptoBulk data ∧
      (∀ (ts : List TypeId) (ds : List (DataW H)) (j B : Nat), (DataW.weightsEach P ts ds).all (· ≤ reachBytes) = true → ts[j]? = some t → ds[j]? = some data → P.bytesOf e = B → xs.length * B ≤ 140737488351232) := by
  obtain ⟨a0, len0, cap0, rfl⟩ := okWide_slice ht hv; obtain ⟨fuel, hf⟩ := h; rcases Go.Deep.open_slice ht hf with ⟨hcs, hx⟩ | ⟨a, len, cap, m, n, D, Pl, hcs, hb, hl, hm, hmm, hx, hi⟩
  · simp [Value.cells] at hcs; obtain ⟨rfl, rfl, rfl⟩ := hcs; obtain ⟨rfl, rfl⟩ := Prod.mk.inj hx; exact ⟨none, [], 0, rfl, Nat.le_refl _, Kd.C_nil d w, by simp, by simp [sumB, Rows.uptoBulk], by simp⟩
  · simp [Value.cells] at hcs; obtain ⟨rfl, rfl, rfl⟩ := hcs; obtain ⟨rfl, rfl⟩ := Prod.mk.inj hx; obtain ⟨xs, h1, h2, h3, h4⟩ := slice_list ho hC hi len0 (by rw [hmm]; split <;> omega) (by simp only [maxLen] at hm; omega); subst h1; refine ⟨some a, xs, cap0, rfl, hl, h2, h3, by simp only [Rows.uptoBulk]; omega, ?_⟩; intro ts ds j B hsz htj hdj hB; have z := sized_slice hsz htj hdj ht; rw [hB] at z; (have hr : reachBytes = 140737488351232 := by decide); simp only [List.length_map, List.length_range] at z; rw [hr] at z; exact Nat.le_trans (Nat.mul_le_mul_right _ (by omega)) z
end
end Go.Proofs.YthffpkdadffinaaDoor.Od
