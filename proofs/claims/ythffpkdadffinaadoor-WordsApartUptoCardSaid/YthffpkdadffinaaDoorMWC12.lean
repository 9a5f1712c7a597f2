/-
  Several texts of this claim in one: what its law's proof uses.
-/
import Derived.Test.YthffpkdadffinaaDoorMWC11
import Derived.Test.YthffpkdadffinaaDoorMWC8
import Derived.Test.YthffpkdadffinaaDoorMWC5
import Derived.BigQuiet
import Derived.Test.YthffpkdadffinaaDoorMWC2
import Derived.Lib.SlBytesConst
import Derived.Test.YthffpkdadffinaaDoorMWC10
import Derived.Test.YthffpkdadffinaaDoorMWC4
import Derived.Deep.RegionHeld3
import Derived.Deep.DeepCutAuto
namespace Go.Proofs.YthffpkdadffinaaDoor.Wj
set_option linter.unusedVariables false
set_option linter.unusedSimpArgs false
open Go.Proofs.YthffpkdadffinaaDoor.Ux (Bytes full)
open Go.Proofs.YthffpkdadffinaaDoor.Ot (rns)
open Go.RowKit Go.Proofs.YthffpkdadffinaaDoorW.PrintWords Go.Proofs.YthffpkdadffinaaDoor.Hp Go.Proofs.YthffpkdadffinaaDoor.Fm Go.Proofs.YthffpkdadffinaaDoor.X Go.Proofs.YthffpkdadffinaaDoor.Va Go.Proofs.YthffpkdadffinaaDoor.Oa Go.Proofs.YthffpkdadffinaaDoor.Vp0 Go.Proofs.YthffpkdadffinaaDoor.Sga Go.Proofs.YthffpkdadffinaaDoor.Sgb Go.Proofs.YthffpkdadffinaaDoor.Sgd Go.Proofs.YthffpkdadffinaaDoor.Sgp Go.Proofs.YthffpkdadffinaaDoor.Sgv Go.Proofs.YthffpkdadffinaaDoor.Wa Go.Proofs.YthffpkdadffinaaDoor.Wb Go.Proofs.YthffpkdadffinaaDoor.Wd Go.Proofs.YthffpkdadffinaaDoor.Wg
abbrev kW := k60
abbrev TW : Nat := 60
theorem kW_KM {w w' : World} {base : Nat} {ok : Nat → Prop} (x : SW) (cs : List Value) (h : kW.K w x cs) : kW.M w' base ok x cs := by
  obtain rfl := k60_open h
  exact k60_mkM _ _ _ _
def PJ (l : List SG) (i : Nat) (st : Option Nat) (out : List SW) : Prop := out ++ (runs (inW (l.map (·.f0))) (l.length - i) i st).map (wordOf l) = wordsF l
theorem PJ_start (l : List SG) : PJ l 0 none [] := by unfold PJ wordsF runsT; simp
theorem PJ_skip {l : List SG} {i : Nat} {out : List SW} (h : PJ l i none out) (hi : i < l.length) (hf : inW (l.map (·.f0)) i = false) : PJ l (i + 1) none out := by
  unfold PJ at h ⊢
  rw [show l.length - i = (l.length - (i + 1)) + 1 by omega, runs, hf, if_neg (by decide)] at h
  exact h
theorem PJ_open {l : List SG} {i : Nat} {out : List SW} (h : PJ l i none out) (hi : i < l.length) (hf : inW (l.map (·.f0)) i = true) : PJ l i (some i) out := by
  unfold PJ at h ⊢
  rw [show l.length - i = (l.length - (i + 1)) + 1 by omega] at h ⊢
  rw [runs, if_pos hf] at h
  show out ++ (if inW (l.map (·.f0)) i = true then runs (inW (l.map (·.f0))) (l.length - (i + 1)) (i + 1) (some i) else (i, i) :: runs (inW (l.map (·.f0))) (l.length - (i + 1)) (i + 1) none).map (wordOf l) = _
  rw [if_pos hf]
  exact h
theorem PJ_step {l : List SG} {i f : Nat} {out : List SW} (h : PJ l i (some f) out) (hi : i < l.length) (hf : inW (l.map (·.f0)) i = true) : PJ l (i + 1) (some f) out := by
  unfold PJ at h ⊢
  rw [show l.length - i = (l.length - (i + 1)) + 1 by omega, runs, if_pos hf] at h
  exact h
theorem PJ_close {l : List SG} {i f : Nat} {out : List SW} (h : PJ l i (some f) out) (hi : i ≤ l.length) (hf : i < l.length → inW (l.map (·.f0)) i = false) : PJ l (i + 1) none (out ++ [wordOf l (f, i)]) := by
  unfold PJ at h ⊢
  by_cases hlt : i < l.length
  · rw [show l.length - i = (l.length - (i + 1)) + 1 by omega, runs, hf hlt, if_neg (by decide), List.map_cons] at h
    rw [List.append_assoc]
    exact h
  · rw [show l.length - i = 0 by omega, runs] at h
    rw [show l.length - (i + 1) = 0 by omega, runs, List.map_nil, List.append_nil]
    exact h
theorem PJ_end {l : List SG} {i : Nat} {out : List SW} (h : PJ l i none out) (hi : l.length ≤ i) : out = wordsF l := by
  unfold PJ at h
  rw [show l.length - i = 0 by omega, runs, List.map_nil, List.append_nil] at h
  exact h
theorem PJ_len {l : List SG} {i : Nat} {st : Option Nat} {out : List SW} (h : PJ l i st out) : out.length ≤ l.length := by
  have h2 := congrArg List.length h
  rw [List.length_append] at h2
  have h3 := (runs_len (inW (l.map (·.f0))) (l.map (·.f0)).length 0).1
  have h4 : (wordsF l).length ≤ l.length := by unfold wordsF runsT; rw [List.length_map]; rw [List.length_map] at h3 ⊢; exact h3
  omega
theorem post_of2 {w w' : World} {L : List Th} (h : Sep w L w') (i : Nat) {v : Value} {l : List SW} (hi : L[i]? = some (rowT kW TW w.heap.size v l)) : kW.R TW w' w.heap.size (fun _ => True) v l := by
  obtain ⟨ok, h1⟩ := h.one i _ hi
  exact Kd.R_mono h1 (fun _ _ => trivial)
theorem KeyR (w : World) (hG : G w) (t : ByteArray) (hs : t.size ≤ 16000000) (A : Option Addr) (n c : Nat) (hC : KB.C w A n (bytesOf t)) (hn : n = (bytesOf t).length) (hc : n ≤ c) :
    Calls Tryd.prog 32 #[.slice A n c] w fun e w' => e = .returned (.string (keyS (bytesOf t))) ∧ Below w.heap.size w w' := by
  subst hn
  obtain ⟨k, hk⟩ := Ev.rounds (keyS_ev (bytesOf t) (bytesOf_Bytes t) (by rw [bytesOf_length]; exact hs))
  exact words_Key.calls k A c (bytesOf t) _ w hC hc hk hG
set_option maxRecDepth 100000 in
set_option maxHeartbeats 8000000 in
theorem JoinP (w : World) (hG : G w) (A : Option Addr) (n c : Nat) (l : List SG) (hC : kG.C w A n l) (hn : n = l.length) (hc : n ≤ c) (hs : sizes (l.map (·.f0)) ≤ 13000000) (hl : n ≤ 13000000) :
    Calls Tryd.prog 30 #[.slice A n c] w fun e w' => ∃ v, e = .returned v ∧ kW.R TW w' w.heap.size (fun _ => True) v (wordsF l) ∧ Below w.heap.size w w' := by
  have HW := Aside0.mk (show ∀ (W : World), Below w.heap.size w W → ∀ j, j < n → Calls Tryd.prog 69 #[.slice A n c, .int .i64 (j : Int)] W (fun e w' => e = .returned (.bool (inW (l.map (·.f0)) j)) ∧ Below W.heap.size W w') from fun W hW j hj => by
    subst hn
    obtain ⟨k, hk⟩ := Ev.rounds (withinEv l (fun s hs2 => by have := sizes_mem _ _ (List.mem_map_of_mem (f := (·.f0)) hs2); omega) (by omega) j hj)
    exact words_within.calls k A c l j _ W (Kd.C_below hC hW) hc hk)
  have HN := Aside0.mk hn
  have HC := Aside0.mk hC
  have HG := Aside0.mk hG
  have HSZ := Aside0.mk hs
  clear hC hn hG
  go_enter Tryd.func30, Tryd.ntmps30
  go_wp2
  go_loopw [3, 4] (fun lv iv wr => ∃ (i : Nat) (out : List SW), iv = .int .i64 i ∧ Aside0 (i ≤ n + 1 ∧ PJ l i none out) ∧ Aside0 (Sep w [rowT kW TW w.heap.size lv out] wr)) (fun _ iv _ => n + 1 - (intOf iv).toNat)
  case atStart => exact ⟨0, [], rfl, ⟨by omega, PJ_start l⟩, ⟨(Sep.nil w).empty kW TW w.heap.size⟩⟩
  case round =>
    obtain ⟨i, out, rfl, HP, HS⟩ := hrel
    by_cases hlt : i < n
    · have hd : decide ((i : Int) < (n : Int)) = true := decide_eq_true (by omega)
      have hd' : decide (i < n) = true := decide_eq_true hlt
      cases hin : inW (l.map (·.f0)) i with
      | false =>
        have HI := Aside0.mk hin
        clear hin
        go_wp2_with (go_at_call 69; go_must (refine (HW.out wr HS.out.below i hlt).mono ?_; rw [HI.out]; rintro E w2 ⟨rfl, p1⟩; have HS2 := Aside0.mk (HS.out.later p1); clear p1))
        go_roundw
        case rel => exact ⟨i + 1, out, by go_num, ⟨by omega, PJ_skip HP.out.2 (by rw [← HN.out]; exact hlt) HI.out⟩, HS2⟩
        case measure => simp [intOf]; omega
      | true =>
        have HI := Aside0.mk hin
        clear hin
        go_wp2_with (go_at_call 69; go_must (refine (HW.out wr HS.out.below i hlt).mono ?_; rw [HI.out]; rintro E w2 ⟨rfl, p1⟩; have HS1 := Aside0.mk (HS.out.later p1); clear p1))
        go_loopw [4, 6] (fun iv tv wq => ∃ (i2 : Nat) (t : ByteArray), iv = .int .i64 i2 ∧ tv = .string t ∧ Aside0 (i ≤ i2 ∧ i2 ≤ n ∧ PJ l i2 (some i) out) ∧ Aside0 (t = catR (l.map (·.f0)) i i2) ∧ Aside0 (Sep w [rowT kW TW w.heap.size u3 out] wq)) (fun iv _ _ => n - (intOf iv).toNat)
        case atStart => exact ⟨i, ⟨#[]⟩, rfl, rfl, ⟨Nat.le_refl _, by omega, PJ_open HP.out.2 (by rw [← HN.out]; exact hlt) HI.out⟩, ⟨(catR_self _ _).symm⟩, HS1⟩
        case round =>
          obtain ⟨i2, t, rfl, rfl, HQ, HT, HS2⟩ := hrel
          by_cases hlt2 : i2 < n
          · have hd2 : decide ((i2 : Int) < (n : Int)) = true := decide_eq_true (by omega)
            have hd2' : decide (i2 < n) = true := decide_eq_true hlt2
            cases hin2 : inW (l.map (·.f0)) i2 with
            | true =>
              have HI2 := Aside0.mk hin2
              clear hin2
              obtain ⟨ad, rfl, z0, -, -⟩ := sg_at HC.out i2 hlt2 (by rw [← HN.out]; exact hlt2)
              have HCS := Aside0.mk (catR_succ (l.map (·.f0)) i i2 HQ.out.1 (by rw [List.length_map, ← HN.out]; exact hlt2))
              simp only [List.getElem_map] at HCS
              obtain ⟨x, hx⟩ : ∃ x, x = (l[i2]'(by rw [← HN.out]; exact hlt2)).f0 := ⟨_, rfl⟩
              rw [← hx] at z0 HCS
              have hsz : t.size + x.size ≤ 9223372036854775807 := by
                have h1 := catR_size (l.map (·.f0)) i (i2 + 1)
                rw [HCS.out, ← HT.out, ByteArray.size_append] at h1
                have := HSZ.out
                omega
              have Z0 := Aside0.mk z0
              clear z0 hx
              go_upto_region 8 with (go_at_call 69; go_must (refine (HW.out wr HS2.out.below i2 hlt2).mono ?_; rw [HI2.out]; rintro E w3 ⟨rfl, p1⟩; have HS3 := Aside0.mk (HS2.out.later p1); clear p1))
              have hcell := cell_later HS3.out.below Z0.out
              go_wp2
              go_roundw
              case rel => exact ⟨i2 + 1, t ++ x, by go_num, rfl, ⟨by have := HQ.out.1; omega, by omega, PJ_step HQ.out.2.2 (by rw [← HN.out]; exact hlt2) HI2.out⟩, ⟨by rw [HCS.out, HT.out]⟩, HS3⟩
              case measure => simp [intOf]; omega
            | false =>
              have HI2 := Aside0.mk hin2
              clear hin2
              have hii : i < i2 := by
                have := HQ.out.1
                rcases Nat.lt_or_ge i i2 with h | h
                · exact h
                · exact absurd (show i2 = i by omega) (fun e => by have h1 := HI.out; have h2 := HI2.out; rw [e, h1] at h2; cases h2)
              go_upto_region 10 with (go_at_call 69; go_must (refine (HW.out wr HS2.out.below i2 hlt2).mono ?_; rw [HI2.out]; rintro E w3 ⟨rfl, p1⟩; have HS3 := Aside0.mk (HS2.out.later p1); clear p1))
              have HPC := Aside0.mk (PJ_close HQ.out.2.2 (by rw [← HN.out]; omega) (fun _ => HI2.out))
              clear hd2 hd2' hlt2
              have hle : i2 ≤ n := HQ.out.2.1
              obtain ⟨j, rfl⟩ : ∃ j, i2 = j + 1 := ⟨i2 - 1, by omega⟩
              obtain ⟨ad0, e0, -, Z1, -⟩ := sg_at HC.out i (by omega) (by rw [← HN.out]; omega)
              obtain ⟨ad1, e1, -, -, Z2⟩ := sg_at HC.out j (by omega) (by rw [← HN.out]; omega)
              obtain rfl : ad1 = ad0 := Option.some.inj (e1.symm.trans e0)
              subst e0
              clear e1
              have hil : i < l.length := by rw [← HN.out]; omega
              have hjl : j < l.length := by rw [← HN.out]; omega
              have hg1 : (gAt l i).f1 = l[i].f1 := by rw [gAt_eq]
              have hg2 : (gAt l j).f2 = l[j].f2 := by rw [gAt_eq]
              obtain ⟨a1, ha1⟩ : ∃ a1, a1 = l[i].f1 := ⟨_, rfl⟩
              obtain ⟨a2, ha2⟩ : ∃ a2, a2 = l[j].f2 := ⟨_, rfl⟩
              rw [← ha1] at Z1 hg1
              rw [← ha2] at Z2 hg2
              obtain ⟨ky, hky⟩ : ∃ ky, ky = keyS (bytesOf t) := ⟨_, rfl⟩
              have HX := Aside0.mk (show wordOf l (i, j + 1) = ⟨ky, ⟨i, ((j + 1 : Nat) : Int), a1, a2⟩⟩ by
                unfold wordOf keyR
                simp only [Nat.add_sub_cancel, hg1, hg2]
                rw [← HT.out, hky])
              have hts : t.size ≤ 13000000 := by
                have h1 := catR_size (l.map (·.f0)) i (j + 1)
                rw [← HT.out] at h1
                have := HSZ.out
                omega
              have HKEY := Aside0.mk (fun (W : World) (h : Below w.heap.size w W) => KeyR W (HG.out.below h) t (by omega))
              rw [← hky] at HKEY
              have hwj : wrap64 (((j + 1 : Nat) : Int) - 1) = (j : Int) := by unfold wrap64; omega
              have hwj3 : IntKind.i64.wrap (j : Int) = (j : Int) := by rw [IntKind.wrap_i64]; omega
              have hjn : (n ≤ j) = False := eq_false (by omega)
              have hwj2 : wrap64 ((j : Int) + 1 - 1) = (j : Int) := by unfold wrap64; omega
              have ZA := Aside0.mk Z1
              have ZB := Aside0.mk Z2
              have kb := fun W => print_bytes (P := Tryd.prog) 9 23 5 Tryd.underlying9 Tryd.underlying23 Tryd.underlying5 t W
              have HB2 := Aside0.mk (fun W : World => bytes_below (Below.refl W.heap.size W) (Nat.le_refl _) 5 t)
              have HBR := Aside0.mk (fun W : World => bytes_reads W 5 t (by omega))
              obtain ⟨x, hx⟩ : ∃ x : SW, x = ⟨ky, ⟨i, ((j + 1 : Nat) : Int), a1, a2⟩⟩ := ⟨_, rfl⟩
              have HXX := Aside0.mk hx
              clear hg1 hg2 ha1 ha2 hky Z1 Z2 hx
              have SD := Aside0.mk (HS3.out.later ((Drawn0.refl w3).step 1).below)
              refine wp_region_held_drew (S := fun W => Below w.heap.size w W) (by kernel_rfl) SD.out.below (fun hS => ?_)
              refine wpAnyH_take (i := 0) (oi := { dst := some 36, op := _, type := _, pos := _, after := _, guard := _ }) (v := u3) rfl (by kernel_rfl) (by kernel_rfl) (by kernel_rfl) (fun _ _ _ h => h) (Or.inl ⟨by rfl, fun W hW => ?_⟩) hS ?_
              · (go_simp)
              try simp only [Act.put, List.setIfInBounds_toArray, List.set_cons_zero, List.set_cons_succ]
              refine wpAnyH_take (i := 1) (oi := { dst := some 37, op := _, type := _, pos := _, after := _, guard := _ }) (v := .string t) rfl (by kernel_rfl) (by kernel_rfl) (by kernel_rfl) (fun _ _ _ h => h) (Or.inl ⟨by rfl, fun W hW => ?_⟩) hS ?_
              · (go_simp)
              try simp only [Act.put, List.setIfInBounds_toArray, List.set_cons_zero, List.set_cons_succ]
              refine wpAnyH_take (i := 4) (oi := { dst := some 40, op := _, type := _, pos := _, after := _, guard := _ }) (v := .int .i64 (i : Int)) rfl (by kernel_rfl) (by kernel_rfl) (by kernel_rfl) (fun _ _ _ h => h) (Or.inl ⟨by rfl, fun W hW => ?_⟩) hS ?_
              · (go_simp)
              try simp only [Act.put, List.setIfInBounds_toArray, List.set_cons_zero, List.set_cons_succ]
              refine wpAnyH_take (i := 5) (oi := { dst := some 41, op := _, type := _, pos := _, after := _, guard := _ }) (v := .int .i64 ((j + 1 : Nat) : Int)) rfl (by kernel_rfl) (by kernel_rfl) (by kernel_rfl) (fun _ _ _ h => h) (Or.inl ⟨by rfl, fun W hW => ?_⟩) hS ?_
              · (go_simp)
              try simp only [Act.put, List.setIfInBounds_toArray, List.set_cons_zero, List.set_cons_succ]
              refine wpAnyH_take (i := 6) (oi := { dst := some 42, op := _, type := _, pos := _, after := _, guard := _ }) (v := .slice (some ad1) n c) rfl (by kernel_rfl) (by kernel_rfl) (by kernel_rfl) (fun _ _ _ h => h) (Or.inl ⟨by rfl, fun W hW => ?_⟩) hS ?_
              · (go_simp)
              try simp only [Act.put, List.setIfInBounds_toArray, List.set_cons_zero, List.set_cons_succ]
              refine wpAnyH_take (i := 7) (oi := { dst := some 43, op := _, type := _, pos := _, after := _, guard := _ }) (v := .int .i64 (i : Int)) rfl (by kernel_rfl) (by kernel_rfl) (by kernel_rfl) (fun _ _ _ h => h) (Or.inl ⟨by rfl, fun W hW => ?_⟩) hS ?_
              · (go_simp)
              try simp only [Act.put, List.setIfInBounds_toArray, List.set_cons_zero, List.set_cons_succ]
              refine wpAnyH_take (i := 8) (oi := { dst := some 44, op := _, type := _, pos := _, after := _, guard := _ }) (v := .pointer (some (ad1.add (i * 3)))) rfl (by kernel_rfl) (by kernel_rfl) (by kernel_rfl) (fun _ _ _ h => h) (Or.inl ⟨by rfl, fun W hW => ?_⟩) hS ?_
              · (go_simp)
              try simp only [Act.put, List.setIfInBounds_toArray, List.set_cons_zero, List.set_cons_succ]
              refine wpAnyH_take (i := 9) (oi := { dst := some 45, op := _, type := _, pos := _, after := _, guard := _ }) (v := .pointer (some ⟨(ad1.add (i * 3)).block, (ad1.add (i * 3)).off + 1, none⟩)) rfl (by kernel_rfl) (by kernel_rfl) (by kernel_rfl) (fun _ _ _ h => h) (Or.inl ⟨by rfl, fun W hW => ?_⟩) hS ?_
              · (go_simp)
              try simp only [Act.put, List.setIfInBounds_toArray, List.set_cons_zero, List.set_cons_succ]
              refine wpAnyH_take (i := 10) (oi := { dst := some 46, op := _, type := _, pos := _, after := _, guard := _ }) (v := .int .i64 a1) rfl (by kernel_rfl) (by kernel_rfl) (by kernel_rfl) (fun _ _ _ h => h) (Or.inl ⟨by rfl, fun W hW => ?_⟩) hS ?_
              · (have hcell := cell_later hW ZA.out; go_simp)
              try simp only [Act.put, List.setIfInBounds_toArray, List.set_cons_zero, List.set_cons_succ]
              refine wpAnyH_take (i := 11) (oi := { dst := some 47, op := _, type := _, pos := _, after := _, guard := _ }) (v := .slice (some ad1) n c) rfl (by kernel_rfl) (by kernel_rfl) (by kernel_rfl) (fun _ _ _ h => h) (Or.inl ⟨by rfl, fun W hW => ?_⟩) hS ?_
              · (go_simp)
              try simp only [Act.put, List.setIfInBounds_toArray, List.set_cons_zero, List.set_cons_succ]
              refine wpAnyH_take (i := 12) (oi := { dst := some 48, op := _, type := _, pos := _, after := _, guard := _ }) (v := .int .i64 ((j + 1 : Nat) : Int)) rfl (by kernel_rfl) (by kernel_rfl) (by kernel_rfl) (fun _ _ _ h => h) (Or.inl ⟨by rfl, fun W hW => ?_⟩) hS ?_
              · (go_simp)
              try simp only [Act.put, List.setIfInBounds_toArray, List.set_cons_zero, List.set_cons_succ]
              refine wpAnyH_take (i := 13) (oi := { dst := some 49, op := _, type := _, pos := _, after := _, guard := _ }) (v := .int .i64 (j : Int)) rfl (by kernel_rfl) (by kernel_rfl) (by kernel_rfl) (fun _ _ _ h => h) (Or.inl ⟨by rfl, fun W hW => ?_⟩) hS ?_
              · (go_simp)
              try simp only [Act.put, List.setIfInBounds_toArray, List.set_cons_zero, List.set_cons_succ]
              refine wpAnyH_take (i := 14) (oi := { dst := some 50, op := _, type := _, pos := _, after := _, guard := _ }) (v := .pointer (some (ad1.add (j * 3)))) rfl (by kernel_rfl) (by kernel_rfl) (by kernel_rfl) (fun _ _ _ h => h) (Or.inl ⟨by rfl, fun W hW => ?_⟩) hS ?_
              · (go_simp)
              try simp only [Act.put, List.setIfInBounds_toArray, List.set_cons_zero, List.set_cons_succ]
              refine wpAnyH_take (i := 15) (oi := { dst := some 51, op := _, type := _, pos := _, after := _, guard := _ }) (v := .pointer (some ⟨(ad1.add (j * 3)).block, (ad1.add (j * 3)).off + 2, none⟩)) rfl (by kernel_rfl) (by kernel_rfl) (by kernel_rfl) (fun _ _ _ h => h) (Or.inl ⟨by rfl, fun W hW => ?_⟩) hS ?_
              · (go_simp)
              try simp only [Act.put, List.setIfInBounds_toArray, List.set_cons_zero, List.set_cons_succ]
              refine wpAnyH_take (i := 16) (oi := { dst := some 52, op := _, type := _, pos := _, after := _, guard := _ }) (v := .int .i64 a2) rfl (by kernel_rfl) (by kernel_rfl) (by kernel_rfl) (fun _ _ _ h => h) (Or.inl ⟨by rfl, fun W hW => ?_⟩) hS ?_
              · (have hcell := cell_later hW ZB.out; go_simp)
              try simp only [Act.put, List.setIfInBounds_toArray, List.set_cons_zero, List.set_cons_succ]
              refine wpAnyH_take (i := 17) (oi := { dst := some 53, op := _, type := _, pos := _, after := _, guard := _ }) (v := .agg #[.int .i64 (i : Int), .int .i64 ((j + 1 : Nat) : Int), .int .i64 a1, .int .i64 a2]) rfl (by kernel_rfl) (by kernel_rfl) (by kernel_rfl) (fun _ _ _ h => h) (Or.inl ⟨by rfl, fun W hW => ?_⟩) hS ?_
              · (go_simp)
              try simp only [Act.put, List.setIfInBounds_toArray, List.set_cons_zero, List.set_cons_succ]
              refine wpAnyH_ready (rs := [2]) (by kernel_rfl) (by simp) ?_
              refine AllReadyH.cons (o := { dst := some 38, op := _, type := _, pos := _, after := _, guard := _ }) rfl (fun K hK => ?_) AllReadyH.nil
              go_simp
              have S4 := Aside0.mk (SD.out.later (HB2.out _))
              have C4 := Aside0.mk (HBR.out (w3.drewN 1))
              refine hK.out _ _ S4.out.below (fun hS2 => ?_)
              clear hK K hS
              have hS := hS2
              clear hS2
              try simp only [Act.put, List.setIfInBounds_toArray, List.set_cons_zero, List.set_cons_succ]
              refine wpAnyH_ready (rs := [3]) (by kernel_rfl) (by simp) ?_
              refine AllReadyH.cons (o := { dst := some 39, op := _, type := _, pos := _, after := _, guard := _ }) rfl (fun K hK => ?_) AllReadyH.nil
              go_simp
              refine (HKEY.out _ S4.out.below _ t.size _ (Hp.rdC (HBR.out w3.drew)) (bytesOf_length t).symm (grownCap_ge _ _ _ _)).mono ?_
              rintro E w5 ⟨rfl, p1⟩
              have S5 := Aside0.mk (S4.out.later p1)
              clear p1
              go_wp2_with fail
              refine hK.out _ _ S5.out.below (fun hS2 => ?_)
              clear hK K hS
              have hS := hS2
              clear hS2
              try simp only [Act.put, List.setIfInBounds_toArray, List.set_cons_zero, List.set_cons_succ]
              refine wpAnyH_take (i := 18) (oi := { dst := some 54, op := _, type := _, pos := _, after := _, guard := _ }) (v := .agg #[.string ky, .int .i64 (i : Int), .int .i64 ((j + 1 : Nat) : Int), .int .i64 a1, .int .i64 a2]) rfl (by kernel_rfl) (by kernel_rfl) (by kernel_rfl) (fun _ _ _ h => h) (Or.inl ⟨by rfl, fun W hW => ?_⟩) hS ?_
              · (go_simp)
              try simp only [Act.put, List.setIfInBounds_toArray, List.set_cons_zero, List.set_cons_succ]
              refine wpAnyH_ready (rs := [19]) (by kernel_rfl) (by simp) ?_
              refine AllReadyH.cons (o := { dst := some 55, op := _, type := _, pos := _, after := _, guard := _ }) rfl (fun K hK => ?_) AllReadyH.nil
              refine Kd.R_lit_step kW _ TW (by rfl) (N := 55) rfl (xs := [x]) (inner := [.string ky, .int .i64 (i : Int), .int .i64 ((j + 1 : Nat) : Int), .int .i64 a1, .int .i64 a2]) (ok := fun _ => True) (okp := fun _ => True) ?hr (Reps.c5 ?hm (Reps.none _ _)) (fun _ hk => hk) trivial (Below.refl _ _) (Nat.le_refl _) (by simp) (fun v6 w6 hR6 hb6 hg6 hat6 => ?_)
              case hr => first | (go_simp; done) | (go_simp; rfl)
              case hm => rw [HXX.out]; exact k60_mkM _ _ _ _
              obtain ⟨A6, c6, rfl, hc6, hC6⟩ := Kd.R_reads hR6
              have S6 := Aside0.mk (S5.out.later hb6)
              clear hR6 hb6 hg6 hat6
              refine hK.out _ _ S6.out.below (fun hS2 => ?_)
              clear hK K hS
              have hS := hS2
              clear hS2
              try simp only [Act.put, List.setIfInBounds_toArray, List.set_cons_zero, List.set_cons_succ]
              refine wpAnyH_ready (rs := [20]) (by kernel_rfl) (by simp) ?_
              refine AllReadyH.cons (o := { dst := some 56, op := _, type := _, pos := _, after := _, guard := _ }) rfl (fun K hK => ?_) AllReadyH.nil
              obtain ⟨ok7, q1, q2, q3⟩ := Sep.row (d := kW) (e := TW) (base := w.heap.size) (v := u3) (xs := out) S6.out 0 rfl
              refine Kd.R_append_rows_step kW (Rr := kW.K w6) (w0 := w6) w.heap.size (by rfl) (.tmp 36) (.tmp 55) 49 TW (.agg #[.string ⟨#[]⟩, .int .i64 0, .int .i64 0, .int .i64 0, .int .i64 0]) 48 rfl Tryd.underlying49 info60 rfl (by decide) (by decide) u3 out [x] A6 [x].length c6 ok7 (fun _ => False) rfl rfl q1 hC6 (fun x cs h => kW_KM x cs h) (fun _ h => h.elim) q2 (Below.refl _ _) S6.out.below.size (by have := PJ_len HP.out.2; have := HN.out; simp only [List.length_singleton]; omega) (fun v7 w7 hR7 hb7 hg7 hat7 => ?_)
              have S7 := Aside0.mk (q3 v7 w7 _ hR7 hg7)
              clear q1 q2 q3 hR7 hb7 hg7 hat7
              refine hK.out _ _ S7.out.below (fun hS2 => ?_)
              clear hK K hS
              have hS := hS2
              clear hS2
              try simp only [Act.put, List.setIfInBounds_toArray, List.set_cons_zero, List.set_cons_succ]
              refine wpAnyH_take (i := 21) (oi := { dst := some 3, op := _, type := _, pos := _, after := _, guard := _ }) (v := v7) rfl (by kernel_rfl) (by kernel_rfl) (by kernel_rfl) (fun _ _ _ h => h) (Or.inl ⟨by rfl, fun W hW => ?_⟩) hS ?_
              · (go_simp)
              try simp only [Act.put, List.setIfInBounds_toArray, List.set_cons_zero, List.set_cons_succ]
              refine wpAnyH_done (by kernel_rfl) ?_ _
              go_wp2
              go_roundw
              case rel => exact ⟨j + 1 + 1, out ++ [x], by go_num, ⟨by omega, by have h := HPC.out; rw [HX.out, ← HXX.out] at h; exact h⟩, S7⟩
              case measure => simp [intOf]; omega
          · have hd2 : decide ((i2 : Int) < (n : Int)) = false := decide_eq_false (by omega)
            have hd2' : decide (i2 < n) = false := decide_eq_false hlt2
            have hle : i2 ≤ n := HQ.out.2.1
            have hii : i < i2 := by omega
            go_upto_region 10 with (fail)
            have HPC := Aside0.mk (PJ_close HQ.out.2.2 (by rw [← HN.out]; omega) (fun h => absurd h (by rw [← HN.out]; exact hlt2)))
            clear hd2 hd2' hlt2
            have HS3 := HS2
            obtain ⟨j, rfl⟩ : ∃ j, i2 = j + 1 := ⟨i2 - 1, by omega⟩
            obtain ⟨ad0, e0, -, Z1, -⟩ := sg_at HC.out i (by omega) (by rw [← HN.out]; omega)
            obtain ⟨ad1, e1, -, -, Z2⟩ := sg_at HC.out j (by omega) (by rw [← HN.out]; omega)
            obtain rfl : ad1 = ad0 := Option.some.inj (e1.symm.trans e0)
            subst e0
            clear e1
            have hil : i < l.length := by rw [← HN.out]; omega
            have hjl : j < l.length := by rw [← HN.out]; omega
            have hg1 : (gAt l i).f1 = l[i].f1 := by rw [gAt_eq]
            have hg2 : (gAt l j).f2 = l[j].f2 := by rw [gAt_eq]
            obtain ⟨a1, ha1⟩ : ∃ a1, a1 = l[i].f1 := ⟨_, rfl⟩
            obtain ⟨a2, ha2⟩ : ∃ a2, a2 = l[j].f2 := ⟨_, rfl⟩
            rw [← ha1] at Z1 hg1
            rw [← ha2] at Z2 hg2
            obtain ⟨ky, hky⟩ : ∃ ky, ky = keyS (bytesOf t) := ⟨_, rfl⟩
            have HX := Aside0.mk (show wordOf l (i, j + 1) = ⟨ky, ⟨i, ((j + 1 : Nat) : Int), a1, a2⟩⟩ by
              unfold wordOf keyR
              simp only [Nat.add_sub_cancel, hg1, hg2]
              rw [← HT.out, hky])
            have hts : t.size ≤ 13000000 := by
              have h1 := catR_size (l.map (·.f0)) i (j + 1)
              rw [← HT.out] at h1
              have := HSZ.out
              omega
            have HKEY := Aside0.mk (fun (W : World) (h : Below w.heap.size w W) => KeyR W (HG.out.below h) t (by omega))
            rw [← hky] at HKEY
            have hwj : wrap64 (((j + 1 : Nat) : Int) - 1) = (j : Int) := by unfold wrap64; omega
            have hwj3 : IntKind.i64.wrap (j : Int) = (j : Int) := by rw [IntKind.wrap_i64]; omega
            have hjn : (n ≤ j) = False := eq_false (by omega)
            have hwj2 : wrap64 ((j : Int) + 1 - 1) = (j : Int) := by unfold wrap64; omega
            have ZA := Aside0.mk Z1
            have ZB := Aside0.mk Z2
            have kb := fun W => print_bytes (P := Tryd.prog) 9 23 5 Tryd.underlying9 Tryd.underlying23 Tryd.underlying5 t W
            have HB2 := Aside0.mk (fun W : World => bytes_below (Below.refl W.heap.size W) (Nat.le_refl _) 5 t)
            have HBR := Aside0.mk (fun W : World => bytes_reads W 5 t (by omega))
            obtain ⟨x, hx⟩ : ∃ x : SW, x = ⟨ky, ⟨i, ((j + 1 : Nat) : Int), a1, a2⟩⟩ := ⟨_, rfl⟩
            have HXX := Aside0.mk hx
            clear hg1 hg2 ha1 ha2 hky Z1 Z2 hx
            have SD := Aside0.mk (HS3.out.later ((Drawn0.refl wr).step 1).below)
            refine wp_region_held_drew (S := fun W => Below w.heap.size w W) (by kernel_rfl) SD.out.below (fun hS => ?_)
            refine wpAnyH_take (i := 0) (oi := { dst := some 36, op := _, type := _, pos := _, after := _, guard := _ }) (v := u3) rfl (by kernel_rfl) (by kernel_rfl) (by kernel_rfl) (fun _ _ _ h => h) (Or.inl ⟨by rfl, fun W hW => ?_⟩) hS ?_
            · (go_simp)
            try simp only [Act.put, List.setIfInBounds_toArray, List.set_cons_zero, List.set_cons_succ]
            refine wpAnyH_take (i := 1) (oi := { dst := some 37, op := _, type := _, pos := _, after := _, guard := _ }) (v := .string t) rfl (by kernel_rfl) (by kernel_rfl) (by kernel_rfl) (fun _ _ _ h => h) (Or.inl ⟨by rfl, fun W hW => ?_⟩) hS ?_
            · (go_simp)
            try simp only [Act.put, List.setIfInBounds_toArray, List.set_cons_zero, List.set_cons_succ]
            refine wpAnyH_take (i := 4) (oi := { dst := some 40, op := _, type := _, pos := _, after := _, guard := _ }) (v := .int .i64 (i : Int)) rfl (by kernel_rfl) (by kernel_rfl) (by kernel_rfl) (fun _ _ _ h => h) (Or.inl ⟨by rfl, fun W hW => ?_⟩) hS ?_
            · (go_simp)
            try simp only [Act.put, List.setIfInBounds_toArray, List.set_cons_zero, List.set_cons_succ]
            refine wpAnyH_take (i := 5) (oi := { dst := some 41, op := _, type := _, pos := _, after := _, guard := _ }) (v := .int .i64 ((j + 1 : Nat) : Int)) rfl (by kernel_rfl) (by kernel_rfl) (by kernel_rfl) (fun _ _ _ h => h) (Or.inl ⟨by rfl, fun W hW => ?_⟩) hS ?_
            · (go_simp)
            try simp only [Act.put, List.setIfInBounds_toArray, List.set_cons_zero, List.set_cons_succ]
            refine wpAnyH_take (i := 6) (oi := { dst := some 42, op := _, type := _, pos := _, after := _, guard := _ }) (v := .slice (some ad1) n c) rfl (by kernel_rfl) (by kernel_rfl) (by kernel_rfl) (fun _ _ _ h => h) (Or.inl ⟨by rfl, fun W hW => ?_⟩) hS ?_
            · (go_simp)
            try simp only [Act.put, List.setIfInBounds_toArray, List.set_cons_zero, List.set_cons_succ]
            refine wpAnyH_take (i := 7) (oi := { dst := some 43, op := _, type := _, pos := _, after := _, guard := _ }) (v := .int .i64 (i : Int)) rfl (by kernel_rfl) (by kernel_rfl) (by kernel_rfl) (fun _ _ _ h => h) (Or.inl ⟨by rfl, fun W hW => ?_⟩) hS ?_
            · (go_simp)
            try simp only [Act.put, List.setIfInBounds_toArray, List.set_cons_zero, List.set_cons_succ]
            refine wpAnyH_take (i := 8) (oi := { dst := some 44, op := _, type := _, pos := _, after := _, guard := _ }) (v := .pointer (some (ad1.add (i * 3)))) rfl (by kernel_rfl) (by kernel_rfl) (by kernel_rfl) (fun _ _ _ h => h) (Or.inl ⟨by rfl, fun W hW => ?_⟩) hS ?_
            · (go_simp)
            try simp only [Act.put, List.setIfInBounds_toArray, List.set_cons_zero, List.set_cons_succ]
            refine wpAnyH_take (i := 9) (oi := { dst := some 45, op := _, type := _, pos := _, after := _, guard := _ }) (v := .pointer (some ⟨(ad1.add (i * 3)).block, (ad1.add (i * 3)).off + 1, none⟩)) rfl (by kernel_rfl) (by kernel_rfl) (by kernel_rfl) (fun _ _ _ h => h) (Or.inl ⟨by rfl, fun W hW => ?_⟩) hS ?_
            · (go_simp)
            try simp only [Act.put, List.setIfInBounds_toArray, List.set_cons_zero, List.set_cons_succ]
            refine wpAnyH_take (i := 10) (oi := { dst := some 46, op := _, type := _, pos := _, after := _, guard := _ }) (v := .int .i64 a1) rfl (by kernel_rfl) (by kernel_rfl) (by kernel_rfl) (fun _ _ _ h => h) (Or.inl ⟨by rfl, fun W hW => ?_⟩) hS ?_
            · (have hcell := cell_later hW ZA.out; go_simp)
            try simp only [Act.put, List.setIfInBounds_toArray, List.set_cons_zero, List.set_cons_succ]
            refine wpAnyH_take (i := 11) (oi := { dst := some 47, op := _, type := _, pos := _, after := _, guard := _ }) (v := .slice (some ad1) n c) rfl (by kernel_rfl) (by kernel_rfl) (by kernel_rfl) (fun _ _ _ h => h) (Or.inl ⟨by rfl, fun W hW => ?_⟩) hS ?_
            · (go_simp)
            try simp only [Act.put, List.setIfInBounds_toArray, List.set_cons_zero, List.set_cons_succ]
            refine wpAnyH_take (i := 12) (oi := { dst := some 48, op := _, type := _, pos := _, after := _, guard := _ }) (v := .int .i64 ((j + 1 : Nat) : Int)) rfl (by kernel_rfl) (by kernel_rfl) (by kernel_rfl) (fun _ _ _ h => h) (Or.inl ⟨by rfl, fun W hW => ?_⟩) hS ?_
            · (go_simp)
            try simp only [Act.put, List.setIfInBounds_toArray, List.set_cons_zero, List.set_cons_succ]
            refine wpAnyH_take (i := 13) (oi := { dst := some 49, op := _, type := _, pos := _, after := _, guard := _ }) (v := .int .i64 (j : Int)) rfl (by kernel_rfl) (by kernel_rfl) (by kernel_rfl) (fun _ _ _ h => h) (Or.inl ⟨by rfl, fun W hW => ?_⟩) hS ?_
            · (go_simp)
            try simp only [Act.put, List.setIfInBounds_toArray, List.set_cons_zero, List.set_cons_succ]
            refine wpAnyH_take (i := 14) (oi := { dst := some 50, op := _, type := _, pos := _, after := _, guard := _ }) (v := .pointer (some (ad1.add (j * 3)))) rfl (by kernel_rfl) (by kernel_rfl) (by kernel_rfl) (fun _ _ _ h => h) (Or.inl ⟨by rfl, fun W hW => ?_⟩) hS ?_
            · (go_simp)
            try simp only [Act.put, List.setIfInBounds_toArray, List.set_cons_zero, List.set_cons_succ]
            refine wpAnyH_take (i := 15) (oi := { dst := some 51, op := _, type := _, pos := _, after := _, guard := _ }) (v := .pointer (some ⟨(ad1.add (j * 3)).block, (ad1.add (j * 3)).off + 2, none⟩)) rfl (by kernel_rfl) (by kernel_rfl) (by kernel_rfl) (fun _ _ _ h => h) (Or.inl ⟨by rfl, fun W hW => ?_⟩) hS ?_
            · (go_simp)
            try simp only [Act.put, List.setIfInBounds_toArray, List.set_cons_zero, List.set_cons_succ]
            refine wpAnyH_take (i := 16) (oi := { dst := some 52, op := _, type := _, pos := _, after := _, guard := _ }) (v := .int .i64 a2) rfl (by kernel_rfl) (by kernel_rfl) (by kernel_rfl) (fun _ _ _ h => h) (Or.inl ⟨by rfl, fun W hW => ?_⟩) hS ?_
            · (have hcell := cell_later hW ZB.out; go_simp)
            try simp only [Act.put, List.setIfInBounds_toArray, List.set_cons_zero, List.set_cons_succ]
            refine wpAnyH_take (i := 17) (oi := { dst := some 53, op := _, type := _, pos := _, after := _, guard := _ }) (v := .agg #[.int .i64 (i : Int), .int .i64 ((j + 1 : Nat) : Int), .int .i64 a1, .int .i64 a2]) rfl (by kernel_rfl) (by kernel_rfl) (by kernel_rfl) (fun _ _ _ h => h) (Or.inl ⟨by rfl, fun W hW => ?_⟩) hS ?_
            · (go_simp)
            try simp only [Act.put, List.setIfInBounds_toArray, List.set_cons_zero, List.set_cons_succ]
            refine wpAnyH_ready (rs := [2]) (by kernel_rfl) (by simp) ?_
            refine AllReadyH.cons (o := { dst := some 38, op := _, type := _, pos := _, after := _, guard := _ }) rfl (fun K hK => ?_) AllReadyH.nil
            go_simp
            have S4 := Aside0.mk (SD.out.later (HB2.out _))
            have C4 := Aside0.mk (HBR.out (wr.drewN 1))
            refine hK.out _ _ S4.out.below (fun hS2 => ?_)
            clear hK K hS
            have hS := hS2
            clear hS2
            try simp only [Act.put, List.setIfInBounds_toArray, List.set_cons_zero, List.set_cons_succ]
            refine wpAnyH_ready (rs := [3]) (by kernel_rfl) (by simp) ?_
            refine AllReadyH.cons (o := { dst := some 39, op := _, type := _, pos := _, after := _, guard := _ }) rfl (fun K hK => ?_) AllReadyH.nil
            go_simp
            refine (HKEY.out _ S4.out.below _ t.size _ (Hp.rdC (HBR.out wr.drew)) (bytesOf_length t).symm (grownCap_ge _ _ _ _)).mono ?_
            rintro E w5 ⟨rfl, p1⟩
            have S5 := Aside0.mk (S4.out.later p1)
            clear p1
            go_wp2_with fail
            refine hK.out _ _ S5.out.below (fun hS2 => ?_)
            clear hK K hS
            have hS := hS2
            clear hS2
            try simp only [Act.put, List.setIfInBounds_toArray, List.set_cons_zero, List.set_cons_succ]
            refine wpAnyH_take (i := 18) (oi := { dst := some 54, op := _, type := _, pos := _, after := _, guard := _ }) (v := .agg #[.string ky, .int .i64 (i : Int), .int .i64 ((j + 1 : Nat) : Int), .int .i64 a1, .int .i64 a2]) rfl (by kernel_rfl) (by kernel_rfl) (by kernel_rfl) (fun _ _ _ h => h) (Or.inl ⟨by rfl, fun W hW => ?_⟩) hS ?_
            · (go_simp)
            try simp only [Act.put, List.setIfInBounds_toArray, List.set_cons_zero, List.set_cons_succ]
            refine wpAnyH_ready (rs := [19]) (by kernel_rfl) (by simp) ?_
            refine AllReadyH.cons (o := { dst := some 55, op := _, type := _, pos := _, after := _, guard := _ }) rfl (fun K hK => ?_) AllReadyH.nil
            refine Kd.R_lit_step kW _ TW (by rfl) (N := 55) rfl (xs := [x]) (inner := [.string ky, .int .i64 (i : Int), .int .i64 ((j + 1 : Nat) : Int), .int .i64 a1, .int .i64 a2]) (ok := fun _ => True) (okp := fun _ => True) ?hr (Reps.c5 ?hm (Reps.none _ _)) (fun _ hk => hk) trivial (Below.refl _ _) (Nat.le_refl _) (by simp) (fun v6 w6 hR6 hb6 hg6 hat6 => ?_)
            case hr => first | (go_simp; done) | (go_simp; rfl)
            case hm => rw [HXX.out]; exact k60_mkM _ _ _ _
            obtain ⟨A6, c6, rfl, hc6, hC6⟩ := Kd.R_reads hR6
            have S6 := Aside0.mk (S5.out.later hb6)
            clear hR6 hb6 hg6 hat6
            refine hK.out _ _ S6.out.below (fun hS2 => ?_)
            clear hK K hS
            have hS := hS2
            clear hS2
            try simp only [Act.put, List.setIfInBounds_toArray, List.set_cons_zero, List.set_cons_succ]
            refine wpAnyH_ready (rs := [20]) (by kernel_rfl) (by simp) ?_
            refine AllReadyH.cons (o := { dst := some 56, op := _, type := _, pos := _, after := _, guard := _ }) rfl (fun K hK => ?_) AllReadyH.nil
            obtain ⟨ok7, q1, q2, q3⟩ := Sep.row (d := kW) (e := TW) (base := w.heap.size) (v := u3) (xs := out) S6.out 0 rfl
            refine Kd.R_append_rows_step kW (Rr := kW.K w6) (w0 := w6) w.heap.size (by rfl) (.tmp 36) (.tmp 55) 49 TW (.agg #[.string ⟨#[]⟩, .int .i64 0, .int .i64 0, .int .i64 0, .int .i64 0]) 48 rfl Tryd.underlying49 info60 rfl (by decide) (by decide) u3 out [x] A6 [x].length c6 ok7 (fun _ => False) rfl rfl q1 hC6 (fun x cs h => kW_KM x cs h) (fun _ h => h.elim) q2 (Below.refl _ _) S6.out.below.size (by have := PJ_len HP.out.2; have := HN.out; simp only [List.length_singleton]; omega) (fun v7 w7 hR7 hb7 hg7 hat7 => ?_)
            have S7 := Aside0.mk (q3 v7 w7 _ hR7 hg7)
            clear q1 q2 q3 hR7 hb7 hg7 hat7
            refine hK.out _ _ S7.out.below (fun hS2 => ?_)
            clear hK K hS
            have hS := hS2
            clear hS2
            try simp only [Act.put, List.setIfInBounds_toArray, List.set_cons_zero, List.set_cons_succ]
            refine wpAnyH_take (i := 21) (oi := { dst := some 3, op := _, type := _, pos := _, after := _, guard := _ }) (v := v7) rfl (by kernel_rfl) (by kernel_rfl) (by kernel_rfl) (fun _ _ _ h => h) (Or.inl ⟨by rfl, fun W hW => ?_⟩) hS ?_
            · (go_simp)
            try simp only [Act.put, List.setIfInBounds_toArray, List.set_cons_zero, List.set_cons_succ]
            refine wpAnyH_done (by kernel_rfl) ?_ _
            go_wp2
            go_roundw
            case rel => exact ⟨j + 1 + 1, out ++ [x], by go_num, ⟨by omega, by have h := HPC.out; rw [HX.out, ← HXX.out] at h; exact h⟩, S7⟩
            case measure => simp [intOf]; omega
    · have hd : decide ((i : Int) < (n : Int)) = false := decide_eq_false (by omega)
      have hd' : decide (i < n) = false := decide_eq_false hlt
      have HE := Aside0.mk (PJ_end HP.out.2 (by rw [← HN.out]; omega))
      clear hlt
      go_wp2
      go_ret
      exact ⟨u3, rfl, by rw [← HE.out]; exact post_of2 HS.out 0 rfl, HS.out.below⟩
end Go.Proofs.YthffpkdadffinaaDoor.Wj
namespace Go.Proofs.YthffpkdadffinaaDoor.X
set_option linter.unusedVariables false
set_option linter.unusedSimpArgs false
open Go.RowKit Go.Proofs.YthffpkdadffinaaDoorW.PrintWords Go.Proofs.YthffpkdadffinaaDoorW.PrintLast Go.Proofs.YthffpkdadffinaaDoorW.PrintMore
def words_Join.f (l : List S67) : Option (List S60) := if Wg.sizes (l.map (·.f0)) ≤ 13000000 ∧ l.length ≤ 13000000 then some (Wg.wordsF l) else none
theorem words_Join.calls (A0 : Option Addr) (c0 : Nat) (l0 : List S67) (r : List S60) (w : World) (hr0 : Kd.C k67 w A0 l0.length l0) (hc0 : l0.length ≤ c0) (h : words_Join.f l0 = some r) (hG0 : Va.G w) :
    Calls Tryd.prog 30 #[.slice A0 l0.length c0] w fun e w' => ∃ v0_ : Value, e = .returned v0_ ∧ Kd.R k60 60 w' w.heap.size (fun _ => True) v0_ r ∧ Below w.heap.size w w' := by
  unfold words_Join.f at h
  split at h
  · rename_i hh
    cases Option.some.inj h
    exact Wj.JoinP w hG0 A0 l0.length c0 l0 hr0 rfl hc0 hh.1 hh.2
  · cases h
end Go.Proofs.YthffpkdadffinaaDoor.X
namespace Go.Proofs.YthffpkdadffinaaDoor.X
open Go.RowKit Go.Proofs.YthffpkdadffinaaDoorW.PrintWords Go.Proofs.YthffpkdadffinaaDoorW.PrintLast Go.Proofs.YthffpkdadffinaaDoorW.PrintMore
attribute [local go_sem] max2_int min2_int max_two min_two max_three min_three max_four min_four   
set_option linter.unusedVariables false
set_option linter.unusedSimpArgs false
def words_Words.f (l0 : List Int) (a1 : Int) : Option ((List (S60)) × Int) := (seg_Split.f l0 a1).bind fun bt555 => (if bt555.2 = 0 then ((words_Join.f bt555.1).bind fun t559 => (some (t559, 0))) else (some (([] : List (S60)), bt555.2)))
set_option maxHeartbeats 8000000 in
set_option maxRecDepth 100000 in
theorem words_Words.calls (A0 : Option Addr) (c0 : Nat) (l0 : List Int) (a1 : Int) (r1 : List (S60)) (r2 : Int) (w : World) (hr0 : Kd.C (Kd.int .u8) w A0 l0.length l0) (hc0 : l0.length ≤ c0) (h : words_Words.f l0 a1 = some (r1, r2)) (hG0 : Va.G w) :
  Calls Tryd.prog 27 #[.slice A0 l0.length c0, .int .i64 a1] w fun e w' => ∃ v0_ : Value, e = .returned (.tuple #[v0_, .int .i64 r2]) ∧ Kd.R k60 60 w' w.heap.size (fun _ => True) v0_ r1 ∧ Below w.heap.size w w' := by
 have HG := Aside0.mk hG0
 clear hG0
 have HR0 := Aside0.mk hr0
 have HC0 := Aside0.mk hc0
 clear hr0 hc0
 have HB := Aside0.mk (Below.refl w.heap.size w)
 have H : ((seg_Split.f l0 a1).bind fun bt555 => (if bt555.2 = 0 then ((words_Join.f bt555.1).bind fun t559 => (some (t559, 0))) else (some (([] : List (S60)), bt555.2)))) = some (r1, r2) := h
 clear h
 replace H := Option.bind_eq_some_iff.mp H
 obtain ⟨⟨t555, t556⟩, A30, H⟩ := H
 replace H : (if t556 = 0 then ((words_Join.f t555).bind fun t559 => (some (t559, 0))) else (some (([] : List (S60)), t556))) = some (r1, r2) := H
 have A3 := Aside0.mk A30
 clear A30
 by_cases c4 : t556 = 0
 ·rw [if_pos c4] at H
  have c4b0 : (t556 == 0) = true := beq_iff_eq.mpr c4
  have c4b1 : (t556 != 0) = false := bne_eq_false_iff_eq.mpr c4
  clear c4
  replace H := Option.bind_eq_some_iff.mp H
  obtain ⟨t559, A50, H⟩ := H
  replace H : (some (t559, 0)) = some (r1, r2) := H
  have A5 := Aside0.mk A50
  clear A50
  simp only [Option.some.injEq, Prod.mk.injEq] at H
  obtain ⟨rfl, rfl⟩ := H
  go_enter Tryd.func27, Tryd.ntmps27
  go_wp2_with (first | ((with_reducible refine gate_callee (f := 39) rfl ?_); refine goesL_ (some 11) rfl rfl Tryd.func39 (by kernel_rfl) rfl #[.slice A0 l0.length c0, .int .i64 a1] rfl (by (try simp only [List.map_toArray, List.map_cons, List.map_nil]); first | done | rfl | (simp only [List.length_drop, List.length_take]; rfl)) ?_; (with_reducible refine (seg_Split.calls _ _ l0 a1 t555 t556 _ ?side1 ?side2 A3.out (by first | exact HG.out | exact Va.G.below HG.out (by repeat (first | (with_reducible first | exact HB.out | apply below_alloc | apply pw_below_drewN | apply below_drew1) | exact HB.out)))).mono ?_); (case side1 => repeat (first | exact HR0.out | (with_reducible refine Kd.C_alloc ?_ _) | (with_reducible refine Kd.C_drewN ?_ _) | (with_reducible refine Kd.C_drew ?_))); (case side2 => exact HC0.out); rintro e w6 ⟨v557, rfl, ho0, hb⟩; refine ⟨_, rfl, ?_⟩; have n0_ := Aside0.mk (Kd.R_lower ho0 (below_size (by repeat (first | (with_reducible first | exact HB.out | apply below_alloc | apply pw_below_drewN | apply below_drew1) | exact HB.out)))); have n1_ := Aside0.mk (below_step (by repeat (first | (with_reducible first | exact HB.out | apply below_alloc | apply pw_below_drewN | apply below_drew1) | exact HB.out)) hb); clear HB; have HO558 := n0_; have HB := n1_; clear n0_ n1_; (try clear hb); (try clear hb2); (try clear hk); (try clear hi); (try clear ho0); obtain ⟨Ao7, co7, eo7⟩ := Kd.R_slice HO558.out; subst eo7) | ((with_reducible refine gate_callee (f := 30) rfl ?_); refine goesL_ (some 18) rfl rfl Tryd.func30 (by kernel_rfl) rfl #[.slice Ao7 t555.length co7] rfl (by (try simp only [List.map_toArray, List.map_cons, List.map_nil]); first | done | rfl | (simp only [List.length_drop, List.length_take]; rfl)) ?_; (with_reducible refine (words_Join.calls _ _ t555 t559 _ ?side1 ?side2 A5.out (by first | exact HG.out | exact Va.G.below HG.out (by repeat (first | (with_reducible first | exact HB.out | apply below_alloc | apply pw_below_drewN | apply below_drew1) | exact HB.out)))).mono ?_); (case side1 => repeat (first | exact (Kd.R_reads' HO558.out).2.2 | (with_reducible refine Kd.C_alloc ?_ _) | (with_reducible refine Kd.C_drewN ?_ _) | (with_reducible refine Kd.C_drew ?_))); (case side2 => exact (Kd.R_reads' HO558.out).2.1); rintro e w8 ⟨v560, rfl, ho0, hb⟩; refine ⟨_, rfl, ?_⟩; have n0_ := Aside0.mk (Kd.R_below (by (with_reducible repeat (first | apply Kd.R_alloc | apply Kd.R_drewN | apply Kd.R_drew)); exact HO558.out) hb); have n1_ := Aside0.mk (Kd.R_lower ho0 (below_size (by repeat (first | (with_reducible first | exact HB.out | apply below_alloc | apply pw_below_drewN | apply below_drew1) | exact HB.out)))); have n2_ := Aside0.mk (below_step (by repeat (first | (with_reducible first | exact HB.out | apply below_alloc | apply pw_below_drewN | apply below_drew1) | exact HB.out)) hb); clear HO558; clear HB; have HO558 := n0_; have HO561 := n1_; have HB := n2_; clear n0_ n1_ n2_; (try clear hb); (try clear hb2); (try clear hk); (try clear hi); (try clear ho0)))
  go_ret2
  exact ⟨_, by first | rfl | (simp [errW_none, errW_some] <;> rfl) | (simp [*, errW_none, errW_some] <;> rfl), by (with_reducible repeat (first | apply Kd.R_alloc | apply Kd.R_drewN | apply Kd.R_drew)); exact HO561.out, by repeat (first | (with_reducible first | exact HB.out | apply below_alloc | apply pw_below_drewN | apply below_drew1) | exact HB.out)⟩
 ·rw [if_neg c4] at H
  have c4b0 : (t556 == 0) = false := beq_eq_false_iff_ne.mpr c4
  have c4b1 : (t556 != 0) = true := bne_iff_ne.mpr c4
  simp only [Option.some.injEq, Prod.mk.injEq] at H
  obtain ⟨rfl, rfl⟩ := H
  go_enter Tryd.func27, Tryd.ntmps27
  go_wp2_with (first | ((with_reducible refine gate_callee (f := 39) rfl ?_); refine goesL_ (some 11) rfl rfl Tryd.func39 (by kernel_rfl) rfl #[.slice A0 l0.length c0, .int .i64 a1] rfl (by (try simp only [List.map_toArray, List.map_cons, List.map_nil]); first | done | rfl | (simp only [List.length_drop, List.length_take]; rfl)) ?_; (with_reducible refine (seg_Split.calls _ _ l0 a1 t555 t556 _ ?side1 ?side2 A3.out (by first | exact HG.out | exact Va.G.below HG.out (by repeat (first | (with_reducible first | exact HB.out | apply below_alloc | apply pw_below_drewN | apply below_drew1) | exact HB.out)))).mono ?_); (case side1 => repeat (first | exact HR0.out | (with_reducible refine Kd.C_alloc ?_ _) | (with_reducible refine Kd.C_drewN ?_ _) | (with_reducible refine Kd.C_drew ?_))); (case side2 => exact HC0.out); rintro e w9 ⟨v557, rfl, ho0, hb⟩; refine ⟨_, rfl, ?_⟩; have n0_ := Aside0.mk (Kd.R_lower ho0 (below_size (by repeat (first | (with_reducible first | exact HB.out | apply below_alloc | apply pw_below_drewN | apply below_drew1) | exact HB.out)))); have n1_ := Aside0.mk (below_step (by repeat (first | (with_reducible first | exact HB.out | apply below_alloc | apply pw_below_drewN | apply below_drew1) | exact HB.out)) hb); clear HB; have HO558 := n0_; have HB := n1_; clear n0_ n1_; (try clear hb); (try clear hb2); (try clear hk); (try clear hi); (try clear ho0)))
  go_ret2
  exact ⟨_, by first | rfl | (simp [errW_none, errW_some] <;> rfl) | (simp [*, errW_none, errW_some] <;> rfl), by first | exact Kd.R_nil _ _ _ _ _ | exact Kd.N_nil _ _ _ _ _ | exact Kd.V_nil _ _ _ _ _ | exact Kd.Q_nil _ _ _ _ _ | exact Kd.S_nil _ _ _ _ _, by repeat (first | (with_reducible first | exact HB.out | apply below_alloc | apply pw_below_drewN | apply below_drew1) | exact HB.out)⟩
end Go.Proofs.YthffpkdadffinaaDoor.X
namespace Go.Proofs.YthffpkdadffinaaDoor.X
open Go.RowKit Go.Proofs.YthffpkdadffinaaDoorW.PrintWords Go.Proofs.YthffpkdadffinaaDoorW.PrintLast Go.Proofs.YthffpkdadffinaaDoorW.PrintMore
attribute [local go_sem] max2_int min2_int max_two min_two max_three min_three max_four min_four   
set_option linter.unusedVariables false
set_option linter.unusedSimpArgs false
def words_Same.f (k : Nat) (l0 : List Int) (l1 : List Int) : Option (Bool) := (words_Key.f k l0).bind fun t615 => ((words_Key.f k l1).bind fun t616 => (some (t615.toList == t616.toList)))
theorem words_Same.mono : ∀ a0 a1 k, LeO (words_Same.f k a0 a1) (words_Same.f (k + 1) a0 a1) := by
 intro a0 a1 k
 unfold words_Same.f
 repeat' first
   | (with_reducible exact words_Key.mono _ _)
   | (with_reducible exact LeO.refl _)
   | (with_reducible exact LeO.none _)
   | (with_reducible refine LeO.ite ?_ ?_)
   | (with_reducible refine LeO.bind ?_ (fun _ => ?_))
   | exact words_Key.mono _ _
   | exact LeO.none _
   | refine LeO.ite ?_ ?_
   | refine LeO.bind ?_ (fun _ => ?_)
set_option maxHeartbeats 8000000 in
set_option maxRecDepth 100000 in
theorem words_Same.calls (k : Nat) (A0 : Option Addr) (c0 : Nat) (l0 : List Int) (A1 : Option Addr) (c1 : Nat) (l1 : List Int) (r : Bool) (w : World) (hr0 : Kd.C (Kd.int .u8) w A0 l0.length l0) (hc0 : l0.length ≤ c0) (hr1 : Kd.C (Kd.int .u8) w A1 l1.length l1) (hc1 : l1.length ≤ c1) (h : words_Same.f k l0 l1 = some r) (hG0 : Va.G w) :
  Calls Tryd.prog 35 #[.slice A0 l0.length c0, .slice A1 l1.length c1] w fun e w' => e = .returned (.bool r) ∧ Below w.heap.size w w' := by
 have HG := Aside0.mk hG0
 clear hG0
 have HR0 := Aside0.mk hr0
 have HC0 := Aside0.mk hc0
 clear hr0 hc0
 have HR1 := Aside0.mk hr1
 have HC1 := Aside0.mk hc1
 clear hr1 hc1
 have HB := Aside0.mk (Below.refl w.heap.size w)
 have H : ((words_Key.f k l0).bind fun t615 => ((words_Key.f k l1).bind fun t616 => (some (t615.toList == t616.toList)))) = some r := h
 clear h
 replace H := Option.bind_eq_some_iff.mp H
 obtain ⟨t615, A30, H⟩ := H
 replace H : ((words_Key.f k l1).bind fun t616 => (some (t615.toList == t616.toList))) = some r := H
 have A3 := Aside0.mk A30
 clear A30
 replace H := Option.bind_eq_some_iff.mp H
 obtain ⟨t616, A40, H⟩ := H
 replace H : (some (t615.toList == t616.toList)) = some r := H
 have A4 := Aside0.mk A40
 clear A40
 obtain rfl := Option.some.inj H
 go_enter Tryd.func35, Tryd.ntmps35
 go_wp2_with (first | ((with_reducible refine gate_callee (f := 32) rfl ?_); refine goesL_ (some 6) rfl rfl Tryd.func32 (by kernel_rfl) rfl #[.slice A0 l0.length c0] rfl (by (try simp only [List.map_toArray, List.map_cons, List.map_nil]); first | done | rfl | (simp only [List.length_drop, List.length_take]; rfl)) ?_; (with_reducible refine (words_Key.calls k _ _ l0 t615 _ ?side1 ?side2 A3.out (by first | exact HG.out | exact Va.G.below HG.out (by repeat (first | (with_reducible first | exact HB.out | apply below_alloc | apply pw_below_drewN | apply below_drew1) | exact HB.out)))).mono ?_); (case side1 => repeat (first | exact HR0.out | (with_reducible refine Kd.C_alloc ?_ _) | (with_reducible refine Kd.C_drewN ?_ _) | (with_reducible refine Kd.C_drew ?_))); (case side2 => exact HC0.out); rintro e w5 ⟨rfl, hb⟩; refine ⟨_, rfl, ?_⟩; have n0_ := Aside0.mk (below_step (by repeat (first | (with_reducible first | exact HB.out | apply below_alloc | apply pw_below_drewN | apply below_drew1) | exact HB.out)) hb); clear HB; have HB := n0_; clear n0_; (try clear hb); (try clear hb2); (try clear hk); (try clear hi)) | ((with_reducible refine gate_callee (f := 32) rfl ?_); refine goesL_ (some 8) rfl rfl Tryd.func32 (by kernel_rfl) rfl #[.slice A1 l1.length c1] rfl (by (try simp only [List.map_toArray, List.map_cons, List.map_nil]); first | done | rfl | (simp only [List.length_drop, List.length_take]; rfl)) ?_; (with_reducible refine (words_Key.calls k _ _ l1 t616 _ ?side1 ?side2 A4.out (by first | exact HG.out | exact Va.G.below HG.out (by repeat (first | (with_reducible first | exact HB.out | apply below_alloc | apply pw_below_drewN | apply below_drew1) | exact HB.out)))).mono ?_); (case side1 => repeat (first | exact (Kd.C_below HR1.out HB.out) | (with_reducible refine Kd.C_alloc ?_ _) | (with_reducible refine Kd.C_drewN ?_ _) | (with_reducible refine Kd.C_drew ?_))); (case side2 => exact HC1.out); rintro e w6 ⟨rfl, hb⟩; refine ⟨_, rfl, ?_⟩; have n0_ := Aside0.mk (below_step (by repeat (first | (with_reducible first | exact HB.out | apply below_alloc | apply pw_below_drewN | apply below_drew1) | exact HB.out)) hb); clear HB; have HB := n0_; clear n0_; (try clear hb); (try clear hb2); (try clear hk); (try clear hi)))
 go_ret
 exact ⟨by first | rfl | (simp [errW_none, errW_some] <;> rfl) | (simp [*, errW_none, errW_some] <;> rfl), by repeat (first | (with_reducible first | exact HB.out | apply below_alloc | apply pw_below_drewN | apply below_drew1) | exact HB.out)⟩
end Go.Proofs.YthffpkdadffinaaDoor.X
namespace Go.Proofs.YthffpkdadffinaaDoor.Wf
set_option linter.unusedVariables false
set_option linter.unusedSimpArgs false
open Go.Proofs.YthffpkdadffinaaDoor.Ux (Bytes)
open Go.RowKit Go.Proofs.YthffpkdadffinaaDoorW.PrintWords Go.Proofs.YthffpkdadffinaaDoor.Hp Go.Proofs.YthffpkdadffinaaDoor.Fm Go.Proofs.YthffpkdadffinaaDoor.X Go.Proofs.YthffpkdadffinaaDoor.Va Go.Proofs.YthffpkdadffinaaDoor.Oa Go.Proofs.YthffpkdadffinaaDoor.Vp0 Go.Proofs.YthffpkdadffinaaDoor.Sga Go.Proofs.YthffpkdadffinaaDoor.Sgb Go.Proofs.YthffpkdadffinaaDoor.Sgd Go.Proofs.YthffpkdadffinaaDoor.Wa Go.Proofs.YthffpkdadffinaaDoor.Wb Go.Proofs.YthffpkdadffinaaDoor.Wd Go.Proofs.YthffpkdadffinaaDoor.Wg Go.Proofs.YthffpkdadffinaaDoor.Wj
section
variable {w0 w w' : World} {L M : List Th}
theorem wordsC (hG : G w0) (S : Sep w0 L w) (A : Option Addr) (n c : Nat) (xs : List Int) (hC : KB.C w A n xs) (hn : n = xs.length) (hc : n ≤ c) (lim : Int) (out : List SW) (er : Int) (m : Nat) (hr : words_Words.f xs lim = some (out, er)) (hm : m = out.length) :
    Calls Tryd.prog 27 #[.slice A n c, .int .i64 lim] w fun E w' => ∃ A' c', E = .returned (.tuple #[.slice A' m c', .int .i64 er]) ∧ Sep w0 (L ++ [rowT kW TW w0.heap.size (.slice A' m c') out]) w' := by
  subst hm hn
  refine (words_Words.calls A c xs lim out er w hC hc hr (hG.below S.below)).mono ?_
  rintro E w' ⟨v, rfl, p1, p2⟩
  obtain ⟨A', c', rfl⟩ := Kd.R_slice p1
  exact ⟨A', c', rfl, S.newR p1 p2⟩
end
theorem wd_at {w : World} {A : Option Addr} {n : Nat} {l : List SW} (h : Kd.C kW w A n l) (j : Nat) (hj : j < n) (hjl : j < l.length) :
    ∃ ad, A = some ad ∧ w.cell? (ad.add (j * 5)) = some (.string l[j].f0) ∧ w.cell? ⟨(ad.add (j * 5)).block, (ad.add (j * 5)).off + 1, none⟩ = some (.int .i64 l[j].f1.f0) ∧ w.cell? ⟨(ad.add (j * 5)).block, (ad.add (j * 5)).off + 2, none⟩ = some (.int .i64 l[j].f1.f1) ∧ w.cell? ⟨(ad.add (j * 5)).block, (ad.add (j * 5)).off + 3, none⟩ = some (.int .i64 l[j].f1.f2) ∧ w.cell? ⟨(ad.add (j * 5)).block, (ad.add (j * 5)).off + 4, none⟩ = some (.int .i64 l[j].f1.f3) := by
  have := at_T60 h (j : Int) (by omega) (by omega)
  have e : rd_T60 l (j : Int) = l[j] := rdW hjl
  rw [Int.toNat_natCast, e] at this
  exact this
def b1 : List Int := [73, 116, 39, 115, 32, 51, 46, 53, 32, 195, 137, 116, 195, 169, 115, 44, 32, 101, 46, 103, 46, 32, 95, 120, 49]
def b2 : List Int := [39, 97, 39, 32, 49, 46, 32, 46, 53]
def o1 : List SW := [⟨⟨#[105, 116, 39, 115]⟩, ⟨0, 4, 0, 4⟩⟩, ⟨⟨#[51, 46, 53]⟩, ⟨5, 8, 5, 8⟩⟩, ⟨⟨#[101, 204, 129, 116, 101, 204, 129, 115]⟩, ⟨9, 13, 9, 15⟩⟩, ⟨⟨#[101]⟩, ⟨15, 16, 17, 18⟩⟩, ⟨⟨#[103]⟩, ⟨17, 18, 19, 20⟩⟩, ⟨⟨#[95, 120, 49]⟩, ⟨20, 23, 22, 25⟩⟩]
def o2 : List SW := [⟨⟨#[97]⟩, ⟨1, 2, 1, 2⟩⟩, ⟨⟨#[49]⟩, ⟨4, 5, 4, 5⟩⟩, ⟨⟨#[53]⟩, ⟨8, 9, 8, 9⟩⟩]
theorem e1 : words_Words.f b1 64 = some (o1, 0) := by kernel_rfl
theorem e2 : words_Words.f b2 64 = some (o2, 0) := by kernel_rfl
theorem e3 : words_Words.f [] 0 = some ([], 1) := by kernel_rfl
theorem k1 : words_Key.f 60 [83, 84, 82, 65, 83, 83, 69] = some ⟨#[115, 116, 114, 97, 115, 115, 101]⟩ := by decide +kernel
theorem k2 : words_Same.f 60 [83, 84, 82, 65, 83, 83, 69] [83, 116, 114, 97, 195, 159, 101] = some true := by decide +kernel
theorem conv2 (W : World) (o : Obj) (C : Array Value) (n c : Nat) : (convert 23 23 (.slice (some ⟨W.heap.size + 1, 0, none⟩) n c)).run Tryd.prog ((W.alloc o).alloc (.cells C 5)) = .ok (.slice (some ⟨W.heap.size + 1, 0, none⟩) n c) ((W.alloc o).alloc (.cells C 5 (C.size, C.size + 1))) := by
  have := Lib.run_convert_bytes_const (P := Tryd.prog) (W.alloc o) 23 5 C n c Tryd.underlying23 Tryd.underlying5
  rw [World.size_alloc] at this
  exact this
theorem keyC (W : World) (hG : G W) : Calls Tryd.prog 32 #[.slice (some ⟨W.heap.size, 0, none⟩) 7 7] (W.alloc (.cells #[.int .u8 83, .int .u8 84, .int .u8 82, .int .u8 65, .int .u8 83, .int .u8 83, .int .u8 69] 5 (7, 8))) fun e w' => e = .returned (.string ⟨#[115, 116, 114, 97, 115, 115, 101]⟩) ∧ Below W.heap.size W w' := by
  have b1 := below_alloc (Below.refl W.heap.size W) (.cells #[.int .u8 83, .int .u8 84, .int .u8 82, .int .u8 65, .int .u8 83, .int .u8 83, .int .u8 69] 5 (7, 8))
  refine (words_Key.calls 60 _ 7 [83, 84, 82, 65, 83, 83, 69] _ _ (Sgf.litB W _ (7, 8) [83, 84, 82, 65, 83, 83, 69] rfl (by simp)) (Nat.le_refl _) k1 (hG.below b1)).mono fun e w' ⟨h1, h2⟩ => ⟨h1, below_then b1 b1.size h2⟩
theorem sameC (W : World) (hG : G W) : Calls Tryd.prog 35 #[.slice (some ⟨W.heap.size, 0, none⟩) 7 7, .slice (some ⟨W.heap.size + 1, 0, none⟩) 7 7] ((W.alloc (.cells #[.int .u8 83, .int .u8 84, .int .u8 82, .int .u8 65, .int .u8 83, .int .u8 83, .int .u8 69] 5 (7, 8))).alloc (.cells #[.int .u8 83, .int .u8 116, .int .u8 114, .int .u8 97, .int .u8 195, .int .u8 159, .int .u8 101] 5 (7, 8))) fun e w' => e = .returned (.bool true) ∧ Below W.heap.size W w' := by
  have b1 := below_alloc (Below.refl W.heap.size W) (.cells #[.int .u8 83, .int .u8 84, .int .u8 82, .int .u8 65, .int .u8 83, .int .u8 83, .int .u8 69] 5 (7, 8))
  have b2 := below_alloc (Below.refl _ (W.alloc (.cells #[.int .u8 83, .int .u8 84, .int .u8 82, .int .u8 65, .int .u8 83, .int .u8 83, .int .u8 69] 5 (7, 8)))) (.cells #[.int .u8 83, .int .u8 116, .int .u8 114, .int .u8 97, .int .u8 195, .int .u8 159, .int .u8 101] 5 (7, 8))
  have b12 := below_then b1 b1.size b2
  have h2 := Sgf.litB (W.alloc (.cells #[.int .u8 83, .int .u8 84, .int .u8 82, .int .u8 65, .int .u8 83, .int .u8 83, .int .u8 69] 5 (7, 8))) #[.int .u8 83, .int .u8 116, .int .u8 114, .int .u8 97, .int .u8 195, .int .u8 159, .int .u8 101] (7, 8) [83, 116, 114, 97, 195, 159, 101] rfl (by simp)
  rw [World.size_alloc] at h2
  refine (words_Same.calls 60 _ 7 [83, 84, 82, 65, 83, 83, 69] _ 7 [83, 116, 114, 97, 195, 159, 101] true _ (Kd.C_below (Sgf.litB W _ (7, 8) [83, 84, 82, 65, 83, 83, 69] rfl (by simp)) b2) (Nat.le_refl _) h2 (Nat.le_refl _) k2 (hG.below b12)).mono fun e w' ⟨h1, h3⟩ => ⟨h1, ?_⟩
  exact below_then b12 b12.size h3
set_option maxRecDepth 100000 in
set_option maxHeartbeats 8000000 in
theorem wordsFixedP (w : World) (hG : G w) : Calls Tryd.prog 26 #[] w fun e w' => e = .returned (.bool true) ∧ Below w.heap.size w w' := by
  have kc := fun (W : World) (C : Array Value) (n c : Nat) => Lib.run_convert_bytes_const (P := Tryd.prog) W 23 5 C n c Tryd.underlying23 Tryd.underlying5
  have kc2 := fun (W : World) (o : Obj) (C : Array Value) (n c : Nat) => conv2 W o C n c
  have S0 := Aside0.mk (Sep.nil w)
  go_enter Tryd.func26, Tryd.ntmps26
  go_upto_region 2 with (first | (go_at_call 27; go_must (refine (wordsC hG (S0.out.later (below_alloc (Below.refl _ _) _)) _ 25 25 b1 (Sgf.litB w _ _ b1 rfl (by simp [b1])) rfl (Nat.le_refl _) 64 o1 0 6 e1 rfl).mono ?_; rintro E w1 ⟨A1, c1, rfl, p1⟩; have S1 := Aside0.mk p1; clear p1 S0)))
  go_upto_region 3 with (first | (go_at_call 27; go_must (refine (wordsC hG (S1.out.later (below_alloc (Below.refl _ _) _)) _ 9 9 b2 (Sgf.litB w1 _ _ b2 rfl (by simp [b2])) rfl (Nat.le_refl _) 64 o2 0 3 e2 rfl).mono ?_; rintro E w2 ⟨A2, c2, rfl, p1⟩; have S2 := Aside0.mk p1; clear p1)))
  go_upto_region 4 with (first | (go_at_call 27; go_must (refine (wordsC hG S2.out none 0 0 [] (Kd.C_nil KB w2) rfl (Nat.le_refl _) 0 [] 1 0 e3 rfl).mono ?_; rintro E w3 ⟨A3, c3, rfl, p1⟩; have S3 := Aside0.mk p1; clear p1 S2)))
  have hC := (Sep.rows (d := kW) (e := TW) (base := w.heap.size) (A := A1) (m := 6) (c := c1) (xs := o1) S3.out 0 rfl).2.2
  obtain ⟨ad, rfl, z0, -⟩ := wd_at hC 0 (by decide) (by decide)
  obtain ⟨_, h1, y0, -⟩ := wd_at hC 1 (by decide) (by decide)
  obtain rfl := Option.some.inj h1
  obtain ⟨_, h2, x0, x1, x2, -⟩ := wd_at hC 2 (by decide) (by decide)
  obtain rfl := Option.some.inj h2
  obtain ⟨_, h5, v0, -⟩ := wd_at hC 5 (by decide) (by decide)
  obtain rfl := Option.some.inj h5
  rw [Nat.zero_mul, show ad.add 0 = ad by cases ad; simp [Addr.add]] at z0
  replace z0 : w3.cell? ad = some (.string ⟨#[105, 116, 39, 115]⟩) := z0
  replace y0 : w3.cell? ⟨ad.block, ad.off + 5, none⟩ = some (.string ⟨#[51, 46, 53]⟩) := y0
  replace x0 : w3.cell? ⟨ad.block, ad.off + 10, none⟩ = some (.string ⟨#[101, 204, 129, 116, 101, 204, 129, 115]⟩) := x0
  replace x1 : w3.cell? ⟨ad.block, ad.off + 10 + 1, none⟩ = some (.int .i64 9) := x1
  replace x2 : w3.cell? ⟨ad.block, ad.off + 10 + 2, none⟩ = some (.int .i64 13) := x2
  have x1' : w3.cell? ⟨ad.block, ad.off + 11, none⟩ = some (.int .i64 9) := x1
  have x2' : w3.cell? ⟨ad.block, ad.off + 12, none⟩ = some (.int .i64 13) := x2
  replace v0 : w3.cell? ⟨ad.block, ad.off + 25, none⟩ = some (.string ⟨#[95, 120, 49]⟩) := v0
  have HB := Aside0.mk S3.out.below
  have HGG := Aside0.mk hG
  clear hC h1 h2 h5 S1 S3
  go_wp2_with (first | (go_at_call 32; go_must (refine (keyC w3 (HGG.out.below HB.out)).mono ?_; rintro E w4 ⟨rfl, p1⟩; have n0_ := Aside0.mk (below_then HB.out HB.out.size p1); clear HB p1; have HB := n0_; clear n0_)) | (go_at_call 35; go_must (refine (sameC w4 (HGG.out.below HB.out)).mono ?_; rintro E w5 ⟨rfl, p1⟩; have n0_ := Aside0.mk (below_then HB.out HB.out.size p1); clear HB p1; have HB := n0_; clear n0_)) | (go_at_call 30; go_must (refine (JoinP w5 (HGG.out.below HB.out) none 0 0 [] (Kd.C_nil kG w5) rfl (Nat.le_refl _) (by decide) (by decide)).mono ?_; rintro E w6 ⟨v, rfl, p0, p1⟩; obtain ⟨A6, c6, rfl⟩ := Kd.R_slice p0; have n0_ := Aside0.mk (below_then HB.out HB.out.size p1); clear HB p0 p1; have HB := n0_; clear n0_)))
  go_ret
  exact ⟨rfl, HB.out⟩
end Go.Proofs.YthffpkdadffinaaDoor.Wf
namespace Go.Proofs.YthffpkdadffinaaDoor.X
set_option linter.unusedVariables false
set_option linter.unusedSimpArgs false
open Go.RowKit Go.Proofs.YthffpkdadffinaaDoorW.PrintWords
end Go.Proofs.YthffpkdadffinaaDoor.X
namespace Go.Proofs.YthffpkdadffinaaDoor.Wc
set_option linter.unusedVariables false
set_option linter.unusedSimpArgs false
open Go.Proofs.YthffpkdadffinaaDoor.Ux (Bytes full bnd st cont one1)
open Go.Proofs.YthffpkdadffinaaDoor.Ve (opn)
open Go.Proofs.YthffpkdadffinaaDoor.Vd (decU)
open Go.Proofs.YthffpkdadffinaaDoor.Vef (foldU allB allB_at fold_out)
open Go.Proofs.YthffpkdadffinaaDoor.Va (cls)
open Go.Proofs.YthffpkdadffinaaDoor.Ot (rns)
open Go.Proofs.YthffpkdadffinaaDoor.Bk (ful ful_nil ful_cons)
open Go.RowKit Go.Proofs.YthffpkdadffinaaDoorW.PrintWords Go.Proofs.YthffpkdadffinaaDoor.X Go.Proofs.YthffpkdadffinaaDoor.Oa Go.Proofs.YthffpkdadffinaaDoor.Vp0 Go.Proofs.YthffpkdadffinaaDoor.Sga Go.Proofs.YthffpkdadffinaaDoor.Sgb Go.Proofs.YthffpkdadffinaaDoor.Sgp Go.Proofs.YthffpkdadffinaaDoor.Sgt Go.Proofs.YthffpkdadffinaaDoor.Sgv Go.Proofs.YthffpkdadffinaaDoor.Sgw Go.Proofs.YthffpkdadffinaaDoor.Wa Go.Proofs.YthffpkdadffinaaDoor.Wb Go.Proofs.YthffpkdadffinaaDoor.Na
def upB (c : Int) : Int := if 97 ≤ c ∧ c ≤ 122 then c - 32 else c
def RR (x y : Int) : Prop := x = y ∨ (97 ≤ x ∧ x ≤ 122 ∧ y = x - 32)
inductive F2 : List Int → List Int → Prop
  | nil : F2 [] []
  | cons {x y : Int} {a b : List Int} : RR x y → F2 a b → F2 (x :: a) (y :: b)
theorem upB_big (c : Int) (h : 123 ≤ c) : upB c = c := if_neg (by omega)
theorem upB_lt (c : Int) (h : c < 128) : upB c < 128 := by unfold upB; split <;> omega
theorem up_RR (c : Int) : RR c (upB c) := by
  unfold upB
  split
  · rename_i h; exact .inr ⟨h.1, h.2, rfl⟩
  · exact .inl rfl
theorem cont_up : ∀ (bs : List (Int × Int)) (t : List Int) (r i : Int), (∀ b, b ∈ bs → 128 ≤ b.1) → cont bs (t.map upB) r i = cont bs t r i
  | [], t, r, i, _ => rfl
  | b :: bs, [], r, i, _ => rfl
  | (lo, hi) :: bs, x :: t, r, i, h => by
    have h0 := h (lo, hi) (List.mem_cons_self ..)
    simp only at h0
    have ih := fun r i => cont_up bs t r i (fun b hb => h b (List.mem_cons_of_mem _ hb))
    rw [List.map_cons]
    simp only [cont]
    by_cases hx : x < 123
    · have := upB_lt x (by omega)
      rw [if_pos (.inl (by omega)), if_pos (.inl (by omega))]
    · rw [upB_big x (by omega), ih]
theorem one1_up (c : Int) (t : List Int) : RR (one1 c t).1 (one1 (upB c) (t.map upB)).1 ∧ (one1 (upB c) (t.map upB)).2 = (one1 c t).2 := by
  by_cases hc : c < 128
  · rw [Ur.one1_ascii c hc, Ur.one1_ascii (upB c) (upB_lt c hc)]
    exact ⟨up_RR c, rfl⟩
  · rw [upB_big c (by omega)]
    unfold one1
    cases h : bnd c with
    | none => exact ⟨.inl rfl, rfl⟩
    | some bs =>
      simp only
      rw [cont_up bs t _ _ (fun b hb => (Ur.bnd_lo h b hb).1)]
      exact ⟨.inl rfl, rfl⟩
theorem rns_up : ∀ (N : Nat) (b : List Int), b.length ≤ N → F2 (rns b) (rns (b.map upB))
  | _, [], _ => by rw [List.map_nil, rns_nil]; exact .nil
  | 0, c :: t, h => by simp at h
  | N + 1, c :: t, h => by
    have h1 := one1_up c t
    have hlt := Ux.drop_lt c t
    have ih := rns_up N ((c :: t).drop (one1 c t).2.1.toNat) (by simp only [List.length_cons] at h; omega)
    rw [List.map_drop] at ih
    rw [rns_cons, List.map_cons, rns_cons, h1.2, ← List.map_cons]
    exact .cons h1.1 ih
theorem all_small (P : Int → Prop) [DecidablePred P] (h : ∀ n : Fin 26, P (97 + (n.1 : Int))) (x : Int) (h1 : 97 ≤ x) (h2 : x ≤ 122) : P x := by
  have := h ⟨(x - 97).toNat, by omega⟩
  have e : (97 : Int) + (((x - 97).toNat : Nat) : Int) = x := by omega
  simp only [e] at this
  exact this
theorem let_dec : ∀ n : Fin 26, decU (97 + (n.1 : Int)) = [97 + (n.1 : Int)] ∧ decU (97 + (n.1 : Int) - 32) = [97 + (n.1 : Int) - 32] := by decide +kernel
theorem let_cls : ∀ n : Fin 26, cls (97 + (n.1 : Int)) = 0 ∧ cls (97 + (n.1 : Int) - 32) = 0 := by decide +kernel
theorem let_fold : ∀ n : Fin 26, foldU (97 + (n.1 : Int)) = foldU (97 + (n.1 : Int) - 32) := by decide +kernel
theorem RR_dec {x y : Int} (h : RR x y) : F2 (decU x) (decU y) := by
  rcases h with rfl | ⟨h1, h2, rfl⟩
  · have : ∀ l : List Int, F2 l l := fun l => by
      induction l with
      | nil => exact .nil
      | cons a t ih => exact .cons (.inl rfl) ih
    exact this _
  · have h := all_small (fun x => decU x = [x] ∧ decU (x - 32) = [x - 32]) let_dec x h1 h2
    rw [h.1, h.2]
    exact .cons (.inr ⟨h1, h2, rfl⟩) .nil
theorem RR_cls {x y : Int} (h : RR x y) : cls x = cls y := by
  rcases h with rfl | ⟨h1, h2, rfl⟩
  · rfl
  · have h := all_small (fun x => cls x = 0 ∧ cls (x - 32) = 0) let_cls x h1 h2
    rw [h.1, h.2]
theorem RR_fold {x y : Int} (h : RR x y) : foldU x = foldU y := by
  rcases h with rfl | ⟨h1, h2, rfl⟩
  · rfl
  · exact all_small (fun x => foldU x = foldU (x - 32)) let_fold x h1 h2
theorem RR_app {a b c d : List Int} (h : F2 a b) (k : F2 c d) : F2 (a ++ c) (b ++ d) := by
  induction h with
  | nil => exact k
  | cons h1 _ ih => exact .cons h1 ih
theorem RR_flat {a b : List Int} (h : F2 a b) : F2 (flat a) (flat b) := by
  induction h with
  | nil => exact .nil
  | cons h1 _ ih => rw [flat_cons, flat_cons]; exact RR_app (RR_dec h1) ih
theorem RR_ins {x y : Int} (hxy : RR x y) {a b : List Int} (h : F2 a b) : F2 (ins x a) (ins y b) := by
  have e := RR_cls hxy
  induction h with
  | nil => exact .cons hxy .nil
  | cons h1 ht ih =>
    have e1 := RR_cls h1
    rw [ins, ins, e, e1]
    split
    · exact .cons h1 ih
    · exact .cons hxy (.cons h1 ht)
theorem RR_ordR {a b : List Int} (h : F2 a b) : ∀ (c d : List Int), F2 c d → F2 (a.foldl (fun acc x => ins x acc) c) (b.foldl (fun acc x => ins x acc) d) := by
  induction h with
  | nil => exact fun c d k => k
  | cons h1 _ ih => exact fun c d k => ih _ _ (RR_ins h1 k)
theorem RR_rev {a b : List Int} (h : F2 a b) : F2 a.reverse b.reverse := by
  induction h with
  | nil => exact .nil
  | cons h1 _ ih => rw [List.reverse_cons, List.reverse_cons]; exact RR_app ih (.cons h1 .nil)
theorem RR_nrm {a b : List Int} (h : F2 a b) : F2 (nrm a) (nrm b) := RR_rev (RR_ordR (RR_flat h) [] [] .nil)
theorem RR_fl2 {a b : List Int} (h : F2 a b) : fl2 a = fl2 b := by
  induction h with
  | nil => rfl
  | cons h1 _ ih =>
    unfold fl2 at ih ⊢
    rw [List.flatMap_cons, List.flatMap_cons, RR_fold h1, ih]
theorem keyS_up (b : List Int) : keyS (b.map upB) = keyS b := by
  unfold keyS
  congr 1
  unfold keyB keyU
  rw [RR_fl2 (RR_nrm (rns_up b.length b (Nat.le_refl _)))]
end Go.Proofs.YthffpkdadffinaaDoor.Wc
namespace Go.Proofs.YthffpkdadffinaaDoor.Lwk
set_option linter.unusedVariables false
set_option linter.unusedSimpArgs false
open Go.Proofs.YthffpkdadffinaaDoor.Ux (Bytes full)
open Go.Proofs.YthffpkdadffinaaDoor.Ot (rns)
open Go.Proofs.YthffpkdadffinaaDoor.En (enc)
open Go.RowKit Go.Proofs.YthffpkdadffinaaDoorW.PrintWords Go.Proofs.YthffpkdadffinaaDoor.Hp Go.Proofs.YthffpkdadffinaaDoor.Ev0 Go.Proofs.YthffpkdadffinaaDoor.X Go.Proofs.YthffpkdadffinaaDoor.Va Go.Proofs.YthffpkdadffinaaDoor.Oa Go.Proofs.YthffpkdadffinaaDoor.Ob Go.Proofs.YthffpkdadffinaaDoor.Vp0 Go.Proofs.YthffpkdadffinaaDoor.Sga Go.Proofs.YthffpkdadffinaaDoor.Sgw Go.Proofs.YthffpkdadffinaaDoor.Wa Go.Proofs.YthffpkdadffinaaDoor.Wd Go.Proofs.YthffpkdadffinaaDoor.Wg
def Fit (b : List Int) : Prop := Bytes b ∧ b.length ≤ 1000000000 ∧ (rns b).length ≤ 30000000 ∧ (fl2 (nrm (rns b))).length ≤ 100000000
theorem fit_small (b : List Int) (hB : Bytes b) (hl : b.length ≤ 1048576) : Fit b := by
  have h1 := Sgu.rns_len b
  have h2 := nrm_len3 (rns b) (r32 b hB)
  have h3 := fl2_len (nrm (rns b))
  exact ⟨hB, by omega, by omega, by omega⟩
theorem KeyP (w : World) (hG : G w) (A : Option Addr) (n c : Nat) (b : List Int) (hC : KB.C w A n b) (hn : n = b.length) (hc : n ≤ c) (h : Fit b) (K : ByteArray) (hK : K = keyS b) :
    Calls Tryd.prog 32 #[.slice A n c] w fun e w' => e = .returned (.string K) ∧ Below w.heap.size w w' := by
  subst hn hK
  obtain ⟨k, hk⟩ := Ev.rounds (keyEv b h.1 h.2.1 (by have := h.2.2.1; omega) h.2.2.2)
  exact words_Key.calls k A c b _ w hC hc hk hG
theorem SameP (w : World) (hG : G w) (A B : Option Addr) (n c m d : Nat) (a b : List Int) (hC : KB.C w A n a) (hn : n = a.length) (hc : n ≤ c) (hD : KB.C w B m b) (hm : m = b.length) (hd : m ≤ d) (ha : Fit a) (hb : Fit b) (D : Bool) (hDD : ((keyS a).toList == (keyS b).toList) = D) :
    Calls Tryd.prog 35 #[.slice A n c, .slice B m d] w fun e w' => e = .returned (.bool D) ∧ Below w.heap.size w w' := by
  subst hn hm hDD
  have h : Ev (fun k => words_Same.f k a b) ((keyS a).toList == (keyS b).toList) := by
    unfold words_Same.f
    refine Ev.bind (keyEv a ha.1 ha.2.1 (by have := ha.2.2.1; omega) ha.2.2.2) ?_
    exact Ev.bind (keyEv b hb.1 hb.2.1 (by have := hb.2.2.1; omega) hb.2.2.2) (Ev.now _)
  obtain ⟨k, hk⟩ := Ev.rounds h
  exact words_Same.calls k A c a B d b _ w hC hc hD hd hk hG
end Go.Proofs.YthffpkdadffinaaDoor.Lwk
namespace Go.Proofs.YthffpkdadffinaaDoor.X
set_option linter.unusedVariables false
set_option linter.unusedSimpArgs false
open Go.RowKit Go.Proofs.YthffpkdadffinaaDoorW.PrintWords Go.Proofs.YthffpkdadffinaaDoor.Vp0
end Go.Proofs.YthffpkdadffinaaDoor.X
namespace Go.Proofs.YthffpkdadffinaaDoor.Lwc
set_option linter.unusedVariables false
set_option linter.unusedSimpArgs false
open Go.Proofs.YthffpkdadffinaaDoor.Ux (Bytes full)
open Go.Proofs.YthffpkdadffinaaDoor.Ot (rns)
open Go.RowKit Go.Proofs.YthffpkdadffinaaDoorW.PrintWords Go.Proofs.YthffpkdadffinaaDoor.Hp Go.Proofs.YthffpkdadffinaaDoor.Fm Go.Proofs.YthffpkdadffinaaDoor.X Go.Proofs.YthffpkdadffinaaDoor.Va Go.Proofs.YthffpkdadffinaaDoor.Oa Go.Proofs.YthffpkdadffinaaDoor.Vp0 Go.Proofs.YthffpkdadffinaaDoor.Sga Go.Proofs.YthffpkdadffinaaDoor.Sgw Go.Proofs.YthffpkdadffinaaDoor.Wa Go.Proofs.YthffpkdadffinaaDoor.Wd Go.Proofs.YthffpkdadffinaaDoor.Wg Go.Proofs.YthffpkdadffinaaDoor.Wc Go.Proofs.YthffpkdadffinaaDoor.Lwk
theorem up_byte (b : List Int) (hB : Bytes b) : Bytes (b.map upB) := fun y hy => by
  obtain ⟨x, hx, rfl⟩ := List.mem_map.1 hy
  have := hB x hx
  unfold upB
  split <;> omega
def upTo (b : List Int) (i : Nat) : List Int := (b.take i).map upB ++ b.drop i
theorem upTo_len (b : List Int) (i : Nat) : (upTo b i).length = b.length := by unfold upTo; simp; omega
theorem upTo_at (b : List Int) (i : Nat) (h : i < b.length) : (upTo b i)[i]'(by rw [upTo_len]; exact h) = b[i] := by
  unfold upTo
  rw [List.getElem_append_right (by rw [List.length_map, List.length_take]; omega)]
  simp [Nat.min_eq_left (Nat.le_of_lt h)]
theorem upTo_succ (b : List Int) (i : Nat) (h : i < b.length) : upTo b (i + 1) = (upTo b i).set i (upB b[i]) := by
  unfold upTo
  rw [List.take_succ_eq_append_getElem h, List.drop_eq_getElem_cons h, List.map_append, List.set_append_right _ _ (by rw [List.length_map, List.length_take]; omega)]
  simp [Nat.min_eq_left (Nat.le_of_lt h)]
  try (rw [List.drop_eq_getElem_cons h]; rfl)
theorem upTo_same (b : List Int) (i : Nat) (h : i < b.length) (hs : upB b[i] = b[i]) : upTo b (i + 1) = upTo b i := by
  rw [upTo_succ b i h, hs, ← upTo_at b i h, List.set_getElem_self]
set_option maxRecDepth 100000 in
set_option maxHeartbeats 8000000 in
theorem cases_ (w : World) (hG : G w) (A : Option Addr) (n c : Nat) (b : List Int) (hC : KB.C w A n b) (hn : n = b.length) (hc : n ≤ c) (hB : Bytes b) (hl : n ≤ 1048576) :
    Calls Tryd.prog 11 #[.slice A n c] w fun e w' => e = .returned (.bool true) ∧ Below w.heap.size w w' := by
  have hl' : b.length ≤ 1048576 := by omega
  have hm : n ≤ 9223372036854775807 := by omega
  obtain ⟨K, hK⟩ : ∃ K, K = keyS b := ⟨_, rfl⟩
  have FKb := Aside0.mk (show ∀ W, Below w.heap.size w W → Calls Tryd.prog 32 #[.slice A n c] W fun e w' => e = .returned (.string K) ∧ Below W.heap.size W w' from fun W h => (KeyP W (hG.below h) A n c b (Kd.C_below hC h) hn hc (fit_small b hB hl') K hK))
  have FKu := Aside0.mk (show ∀ W, Below w.heap.size w W → ∀ A2 c2, KB.C W A2 n (b.map upB) → n ≤ c2 → Calls Tryd.prog 32 #[.slice A2 n c2] W fun e w' => e = .returned (.string K) ∧ Below W.heap.size W w' from fun W h A2 c2 h1 h2 => (KeyP W (hG.below h) A2 n c2 (b.map upB) h1 (by rw [List.length_map]; exact hn) h2 (fit_small _ (up_byte b hB) (by rw [List.length_map]; exact hl')) K (by rw [hK, keyS_up])))
  have FS := Aside0.mk (show ∀ W, Below w.heap.size w W → ∀ A2 c2, KB.C W A2 n (b.map upB) → n ≤ c2 → Calls Tryd.prog 35 #[.slice A2 n c2, .slice A n c] W fun e w' => e = .returned (.bool true) ∧ Below W.heap.size W w' from fun W h A2 c2 h1 h2 => (SameP W (hG.below h) A2 A n c2 n c (b.map upB) b h1 (by rw [List.length_map]; exact hn) h2 (Kd.C_below hC h) hn hc (fit_small _ (up_byte b hB) (by rw [List.length_map]; exact hl')) (fit_small b hB hl') true (by rw [keyS_up]; exact beq_self_eq_true _)))
  have HC := Aside0.mk hC
  have HN := Aside0.mk hn
  have HBY := Aside0.mk hB
  have HG := Aside0.mk hG
  have hKK : (K.toList == K.toList) = true := beq_self_eq_true _
  have HLT := Aside0.mk (show (([] : List Int).length + n) * 1 ≤ 140737488355328 by simp; omega)
  clear hC hn hB hK hG
  go_enter Tryd.func11, Tryd.ntmps11
  go_wp2_with (first | (go_at_call 26; refine (Wf.wordsFixedP w HG.out).mono ?_; rintro E w2 ⟨rfl, p1⟩; have H2 := Aside0.mk p1; clear p1) | ((with_reducible refine gate_dst (N := 8) rfl ?_); refine Kd.R_lit KB _ 5 ?hg (N := 8) ?hd (xs := ([] : List Int)) (inner := []) (ok := fun _ => True) (okp := fun _ => True) ?hr (Reps.none _ _) (fun _ hk => hk) trivial (Below.refl _ _) (Nat.le_refl _) (by simp) ?_; (case hd => rfl); (case hg => rfl); (case hr => first | (go_simp; done) | (go_simp; rfl)); intro v8 w3 hR3 hb3 hg_ hnew_; have S3 := Aside0.mk (((Sep.nil w).later H2.out).newR hR3 hb3); clear hR3 hb3 hg_ hnew_; obtain ⟨ok3, q1, q2, q3⟩ := Sep.row (d := KB) (e := 5) (base := w.heap.size) (v := v8) (xs := ([] : List Int)) S3.out 0 rfl; have R3 := Aside0.mk q1; have F3 := Aside0.mk q2; have N3 := Aside0.mk q3; have HB3 := Aside0.mk S3.out.below; have s3 := S3.out.below.size; clear q1 q2 q3) | (at_builtin; go_must (refine Kd.R_append_rows KB (Rr := KB.K w3) (w0 := w3) w.heap.size rfl (.tmp 8) (.tmp 9) 23 5 (.int .u8 0) 1 rfl Tryd.underlying23 info5 rfl (by decide) (by decide) v8 [] b A n c ok3 (fun _ => False) rfl rfl R3.out (Kd.C_below HC.out HB3.out) (fun _ _ h => h) (fun _ h => h.elim) F3.out (Below.refl _ _) s3 HLT.out ?happ)))
  case happ =>
    intro v4 w4 hR4 hb4 hg4 hat4
    have hS4 := N3.out v4 w4 _ hR4 hg4
    rw [List.nil_append] at hS4
    have S4 := Aside0.mk hS4
    obtain ⟨A4, c4, rfl, hc4, -⟩ := Sep.reads (d := KB) (e := 5) (base := w.heap.size) (v := v4) (xs := b) hS4 0 rfl
    rw [← HN.out] at hc4 S4 ⊢
    clear hS4 hR4 hb4 hg4 hat4 R3 F3 N3 S3 HB3
    go_wp2
    go_loopw [13] (fun iv wr => ∃ i : Nat, i ≤ n ∧ iv = .int .i64 i ∧ Aside0 (Sep w [rowT KB 5 w.heap.size (.slice A4 n c4) (upTo b i)] wr)) (fun iv _ => n - (intOf iv).toNat)
    case atStart => exact ⟨0, Nat.zero_le _, rfl, ⟨by have h := S4.out; simpa [upTo] using h⟩⟩
    case round =>
      obtain ⟨i, hi, rfl, HS⟩ := hrel
      clear S4
      by_cases hlt : i < n
      · have hd : decide ((i : Int) < (n : Int)) = true := decide_eq_true (by omega)
        have hd' : decide (i < n) = true := decide_eq_true hlt
        have hib : i < b.length := by rw [← HN.out]; exact hlt
        obtain ⟨ok5, q1, q2, q3⟩ := Sep.row (d := KB) (e := 5) (base := w.heap.size) (v := .slice A4 n c4) (xs := upTo b i) HS.out 0 rfl
        have hCr := (Sep.rows (d := KB) (e := 5) (base := w.heap.size) (A := A4) (m := n) (c := c4) (xs := upTo b i) HS.out 0 rfl).2.2
        obtain ⟨inner, hown⟩ := Kd.R_own q1
        rcases hown.2 with ⟨hv, h0⟩ | ⟨g, cap, cur, hv, -, hbk, -⟩
        · rw [upTo_len] at h0; omega
        · obtain ⟨rfl, -, rfl⟩ : A4 = some ⟨g, 0, none⟩ ∧ n = (upTo b i).length ∧ c4 = cap := by simpa using hv
          obtain ⟨ad, ha, hz⟩ := (rdint hCr).2.2 (by omega)
          obtain rfl := Option.some.inj ha
          have z := hz i hlt
          have e : (⟨g, 0, none⟩ : Addr).add i = ⟨g, i, none⟩ := by
            unfold Addr.add
            split
            · rename_i h; rw [h]
            · simp
          obtain ⟨x, hx⟩ : ∃ x, x = b[i] := ⟨_, rfl⟩
          rw [e, List.getD_eq_getElem?_getD, List.getElem?_eq_getElem (by rw [upTo_len]; exact hib), upTo_at b i hib, ← hx, Option.getD_some] at z
          have hxr := HBY.out _ (List.getElem_mem hib)
          rw [← hx] at hxr
          have hfr := blk_frozen hbk i
          by_cases hin : 97 ≤ x ∧ x ≤ 122
          · have q1' : KB.R 5 wr w.heap.size ok5 (.slice (some ⟨g, 0, none⟩) (upTo b i).length c4) (upTo b i) := by rw [upTo_len, ← HN.out]; exact q1
            have hput := Kd.R_put (enc := Value.int .u8) (h1 := fun _ => rfl) q1' (i : Int) (x - 32)
            rw [Int.toNat_natCast] at hput
            have hup : (upTo b i).set i (x - 32) = upTo b (i + 1) := by rw [upTo_succ b i hib, ← hx]; unfold upB; rw [if_pos hin]
            have HNX := Aside0.mk (show Sep w [rowT KB 5 w.heap.size (.slice (some ⟨g, 0, none⟩) n c4) (upTo b (i + 1))] (wr.setCell ⟨g, i, none⟩ (.int .u8 (x - 32))) from by
              have h := q3 _ _ _ hput.1 hput.2
              rw [hup, upTo_len, ← HN.out] at h
              exact h)
            have d1 : decide (x ≥ 97) = true := decide_eq_true hin.1
            have d1' : decide (97 ≤ x) = true := decide_eq_true hin.1
            have d2 : decide (x ≤ 122) = true := decide_eq_true hin.2
            have hw1 : IntKind.u8.wrap (x - 32) = x - 32 := by simp [IntKind.wrap, IntKind.bits, IntKind.signed]; omega
            clear hx hxr hput hup q1 q1' q2 q3 hCr hown hv hbk hin HS ha hz e
            go_wp2
            go_roundw
            case rel => exact ⟨i + 1, by omega, by go_num, HNX⟩
            case measure => simp [intOf]; omega
          · have HNX := Aside0.mk (show Sep w [rowT KB 5 w.heap.size (.slice (some ⟨g, 0, none⟩) n c4) (upTo b (i + 1))] wr from by
              rw [upTo_same b i hib (by rw [← hx]; unfold upB; rw [if_neg hin])]
              exact HS.out)
            clear hx hxr q1 q2 q3 hCr hown hv hbk HS ha hz e
            by_cases h1 : 97 ≤ x
            · have d1 : decide (x ≥ 97) = true := decide_eq_true h1
              have d1' : decide (97 ≤ x) = true := decide_eq_true h1
              have d2 : decide (x ≤ 122) = false := decide_eq_false fun h => hin ⟨h1, h⟩
              clear hin h1
              go_wp2
              go_roundw
              case rel => exact ⟨i + 1, by omega, by go_num, HNX⟩
              case measure => simp [intOf]; omega
            · have d1 : decide (x ≥ 97) = false := decide_eq_false h1
              have d1' : decide (97 ≤ x) = false := decide_eq_false h1
              clear hin h1
              go_wp2
              go_roundw
              case rel => exact ⟨i + 1, by omega, by go_num, HNX⟩
              case measure => simp [intOf]; omega
      · have hd : decide ((i : Int) < (n : Int)) = false := decide_eq_false (by omega)
        have hd' : decide (i < n) = false := decide_eq_false hlt
        obtain rfl : i = n := by omega
        have S5 := Aside0.mk (show Sep w [rowT KB 5 w.heap.size (.slice A4 i c4) (b.map upB)] wr from by
          have h := HS.out
          have e : upTo b i = b.map upB := by unfold upTo; rw [HN.out, List.take_length, List.drop_length, List.append_nil]
          rw [e] at h
          exact h)
        clear HS hlt
        go_wp2_with (first | (go_at_call 32; go_must (first | (with_reducible refine (FKb.out _ S5.out.below).mono ?_) | (with_reducible refine (FKu.out _ S5.out.below A4 c4 (Sep.rows (d := KB) (e := 5) (base := w.heap.size) (xs := b.map upB) S5.out 0 rfl).2.2 hc4).mono ?_)); rintro E w6 ⟨rfl, p1⟩; have n0_ := Aside0.mk (S5.out.later p1); clear S5 p1; have S5 := n0_; clear n0_) | (go_at_call 35; go_must (refine (FS.out _ S5.out.below A4 c4 (Sep.rows (d := KB) (e := 5) (base := w.heap.size) (xs := b.map upB) S5.out 0 rfl).2.2 hc4).mono ?_); rintro E w6 ⟨rfl, p1⟩; have n0_ := Aside0.mk (S5.out.later p1); clear S5 p1; have S5 := n0_; clear n0_))
        go_ret
        exact ⟨rfl, S5.out.below⟩
end Go.Proofs.YthffpkdadffinaaDoor.Lwc
namespace Go.Proofs.YthffpkdadffinaaDoor.X
set_option linter.unusedVariables false
set_option linter.unusedSimpArgs false
open Go.RowKit Go.Proofs.YthffpkdadffinaaDoorW.PrintWords Go.Proofs.YthffpkdadffinaaDoor.Vp0
def tremalaw13_WordsCases.f (b : List Int) : Option Bool := if bytesB b = true ∧ b.length ≤ 1048576 then some true else none
theorem tremalaw13_WordsCases.calls (A0 : Option Addr) (c0 : Nat) (b : List Int) (r : Bool) (w : World) (hr0 : Kd.C (Kd.int .u8) w A0 b.length b) (hc0 : b.length ≤ c0) (h : tremalaw13_WordsCases.f b = some r) (hG0 : Va.G w) :
  Calls Tryd.prog 11 #[.slice A0 b.length c0] w fun e w' => e = .returned (.bool r) ∧ Below w.heap.size w w' := by
  unfold tremalaw13_WordsCases.f at h
  split at h
  · rename_i hh
    cases Option.some.inj h
    exact Lwc.cases_ w hG0 A0 b.length c0 b hr0 rfl hc0 (bytesB_of hh.1) hh.2
  · cases h
theorem tremalaw13_WordsCases.pure (b : List Int) (hwf : ∀ y ∈ b, (Lit.int .u8 y).wf = true) (hl : b.length ≤ 1048576) : tremalaw13_WordsCases.f b = some true := by
  unfold tremalaw13_WordsCases.f
  rw [if_pos ⟨Sgr.bytesB_mk (Ot.wf_bytes hwf), hl⟩]
end Go.Proofs.YthffpkdadffinaaDoor.X
