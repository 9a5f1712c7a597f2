/-
  Several texts of this claim in one: what its law's proof uses.
-/
import Derived.Test.YthffpkdadffinaaDoorMWT16
import Derived.Test.YthffpkdadffinaaDoorMWT11
import Derived.Test.YthffpkdadffinaaDoorMWT3
import Derived.BigQuiet
import Derived.Test.YthffpkdadffinaaDoorMWT13
import Derived.Test.YthffpkdadffinaaDoorMWT6
import Derived.Test.YthffpkdadffinaaDoorMWT14
namespace Go.Proofs.YthffpkdadffinaaDoor.Wj
set_option linter.unusedVariables false
set_option linter.unusedSimpArgs false
open Go.Proofs.YthffpkdadffinaaDoor.Ux (Bytes full)
open Go.Proofs.YthffpkdadffinaaDoor.Ot (rns)
open Go.RowKit YthffpkdadffinaaDoorW.PrintWords Hp Fm X Va Oa Vp0 Sga Sgb Sgd Sgp Sgv Wa Wb Wd Wg
abbrev kW := k60
abbrev TW : Nat := 60
theorem infoWd : (Tryd.prog.info? 60).map (fun i => (i.zero, i.size, i.bytes)) = some (some (.agg #[.string ⟨#[]⟩, .int .i64 0, .int .i64 0, .int .i64 0, .int .i64 0]), 5, 48) := by kernel_rfl
theorem kW_KM {w w' : World} {base : Nat} {ok : Nat → Prop} (x : SW) (cs : List Value) (h : kW.K w x cs) : kW.M w' base ok x cs := by
  obtain rfl := k60_open h; exact k60_mkM _ _ _ _
def PJ (l : List SG) (i : Nat) (st : Option Nat) (out : List SW) : Prop := out ++ (runs (inW (l.map (·.f0))) (l.length - i) i st).map (wordOf l) = wordsF l
theorem PJ_start (l : List SG) : PJ l 0 none [] := by unfold PJ wordsF runsT; simp
theorem PJ_skip {l : List SG} {i : Nat} {out : List SW} (h : PJ l i none out) (hi : i < l.length) (hf : inW (l.map (·.f0)) i = false) : PJ l (i + 1) none out := by
  unfold PJ at h ⊢; rw [show l.length - i = (l.length - (i + 1)) + 1 by omega, runs, hf, if_neg (by decide)] at h; exact h
theorem PJ_open {l : List SG} {i : Nat} {out : List SW} (h : PJ l i none out) (hi : i < l.length) (hf : inW (l.map (·.f0)) i = true) : PJ l i (some i) out := by
  unfold PJ at h ⊢; rw [show l.length - i = (l.length - (i + 1)) + 1 by omega] at h ⊢; rw [runs, if_pos hf] at h; (show out ++ (if inW (l.map (·.f0)) i = true then runs (inW (l.map (·.f0))) (l.length - (i + 1)) (i + 1) (some i) else (i, i) :: runs (inW (l.map (·.f0))) (l.length - (i + 1)) (i + 1) none).map (wordOf l) = _); rw [if_pos hf]; exact h
theorem PJ_step {l : List SG} {i f : Nat} {out : List SW} (h : PJ l i (some f) out) (hi : i < l.length) (hf : inW (l.map (·.f0)) i = true) : PJ l (i + 1) (some f) out := by
  unfold PJ at h ⊢; rw [show l.length - i = (l.length - (i + 1)) + 1 by omega, runs, if_pos hf] at h; exact h
theorem PJ_close {l : List SG} {i f : Nat} {out : List SW} (h : PJ l i (some f) out) (hi : i ≤ l.length) (hf : i < l.length → inW (l.map (·.f0)) i = false) : PJ l (i + 1) none (out ++ [wordOf l (f, i)]) := by
  unfold PJ at h ⊢; by_cases hlt : i < l.length
  · rw [show l.length - i = (l.length - (i + 1)) + 1 by omega, runs, hf hlt, if_neg (by decide), List.map_cons] at h; rw [List.append_assoc]; exact h
  · rw [show l.length - i = 0 by omega, runs] at h; rw [show l.length - (i + 1) = 0 by omega, runs, List.map_nil, List.append_nil]; exact h
theorem PJ_end {l : List SG} {i : Nat} {out : List SW} (h : PJ l i none out) (hi : l.length ≤ i) : out = wordsF l := by
  unfold PJ at h; rw [show l.length - i = 0 by omega, runs, List.map_nil, List.append_nil] at h; exact h
theorem PJ_len {l : List SG} {i : Nat} {st : Option Nat} {out : List SW} (h : PJ l i st out) : out.length ≤ l.length := by
  have h2 := congrArg List.length h; rw [List.length_append] at h2; have h3 := (runs_len (inW (l.map (·.f0))) (l.map (·.f0)).length 0).1; (have h4 : (wordsF l).length ≤ l.length := by unfold wordsF runsT; rw [List.length_map]; rw [List.length_map] at h3 ⊢; exact h3); omega
theorem post_of2 {w w' : World} {L : List Th} (h : Sep w L w') (i : Nat) {v : Value} {l : List SW} (hi : L[i]? = some (rowT kW TW w.heap.size v l)) : kW.R TW w' w.heap.size (fun _ => True) v l := by
  obtain ⟨ok, h1⟩ := h.one i _ hi; exact Kd.R_mono h1 (fun _ _ => trivial)
theorem KeyR (w : World) (hG : G w) (t : ByteArray) (hs : t.size ≤ 16000000) (A : Option Addr) (n c : Nat) (hC : KB.C w A n (bytesOf t)) (hn : n = (bytesOf t).length) (hc : n ≤ c) :
    Calls Tryd.prog 32 #[.slice A n c] w fun e w' => e = .returned (.string (keyS (bytesOf t))) ∧ Below w.heap.size w w' := by
  subst hn; obtain ⟨k, hk⟩ := Ev.rounds (keyS_ev (bytesOf t) (bytesOf_Bytes t) (by rw [bytesOf_length]; exact hs)); exact words_Key.calls k A c (bytesOf t) _ w hC hc hk hG
set_option maxRecDepth 100000 in
set_option maxHeartbeats 8000000 in
theorem JoinP (w : World) (hG : G w) (A : Option Addr) (n c : Nat) (l : List SG) (hC : kG.C w A n l) (hn : n = l.length) (hc : n ≤ c) (hs : sizes (l.map (·.f0)) ≤ 13000000) (hl : n ≤ 13000000) :
    Calls Tryd.prog 30 #[.slice A n c] w fun e w' => ∃ v, e = .returned v ∧ kW.R TW w' w.heap.size (fun _ => True) v (wordsF l) ∧ Below w.heap.size w w' := by
  have HW := Aside0.mk (show ∀ (W : World), Below w.heap.size w W → ∀ j, j < n → Calls Tryd.prog 69 #[.slice A n c, .int .i64 (j : Int)] W (fun e w' => e = .returned (.bool (inW (l.map (·.f0)) j)) ∧ Below W.heap.size W w') from fun W hW j hj => by
    subst hn; obtain ⟨k, hk⟩ := Ev.rounds (withinEv l (fun s hs2 => by have := sizes_mem _ _ (List.mem_map_of_mem (f := (·.f0)) hs2); omega) (by omega) j hj)
    exact words_within.calls k A c l j _ W (Kd.C_below hC hW) hc hk)
  have HN := Aside0.mk hn; have HC := Aside0.mk hC; have HG := Aside0.mk hG; have HSZ := Aside0.mk hs; clear hC hn hG; go_enter Tryd.func30, Tryd.ntmps30; go_wp2; go_loopw [3, 4] (fun lv iv wr => ∃ (i : Nat) (out : List SW), iv = .int .i64 i ∧ Aside0 (i ≤ n + 1 ∧ PJ l i none out) ∧ Aside0 (Sep w [rowT kW TW w.heap.size lv out] wr)) (fun _ iv _ => n + 1 - (intOf iv).toNat)
  case atStart => exact ⟨0, [], rfl, ⟨by omega, PJ_start l⟩, ⟨(Sep.nil w).empty kW TW w.heap.size⟩⟩
  case round =>
    obtain ⟨i, out, rfl, HP, HS⟩ := hrel; by_cases hlt : i < n
    · have hd : decide ((i : Int) < (n : Int)) = true := decide_eq_true (by omega); have hd' : decide (i < n) = true := decide_eq_true hlt
      cases hin : inW (l.map (·.f0)) i with
      | false =>
        have HI := Aside0.mk hin; clear hin; go_wp2_with (go_at_call 69; go_must (refine (HW.out wr HS.out.below i hlt).mono ?_; rw [HI.out]; rintro E w2 ⟨rfl, p1⟩; have HS2 := Aside0.mk (HS.out.later p1); clear p1)); go_roundw
        case rel => exact ⟨i + 1, out, by go_num, ⟨by omega, PJ_skip HP.out.2 (by rw [← HN.out]; exact hlt) HI.out⟩, HS2⟩
        case measure => simp [intOf]; omega
      | true =>
        have HI := Aside0.mk hin; clear hin; go_wp2_with (go_at_call 69; go_must (refine (HW.out wr HS.out.below i hlt).mono ?_; rw [HI.out]; rintro E w2 ⟨rfl, p1⟩; have HS1 := Aside0.mk (HS.out.later p1); clear p1)); go_loopw [4, 6] (fun iv tv wq => ∃ (i2 : Nat) (t : ByteArray), iv = .int .i64 i2 ∧ tv = .string t ∧ Aside0 (i ≤ i2 ∧ i2 ≤ n ∧ PJ l i2 (some i) out) ∧ Aside0 (t = catR (l.map (·.f0)) i i2) ∧ Aside0 (Sep w [rowT kW TW w.heap.size u3 out] wq)) (fun iv _ _ => n - (intOf iv).toNat)
        case atStart => exact ⟨i, ⟨#[]⟩, rfl, rfl, ⟨Nat.le_refl _, by omega, PJ_open HP.out.2 (by rw [← HN.out]; exact hlt) HI.out⟩, ⟨(catR_self _ _).symm⟩, HS1⟩
        case round =>
          obtain ⟨i2, t, rfl, rfl, HQ, HT, HS2⟩ := hrel; by_cases hlt2 : i2 < n
          · have hd2 : decide ((i2 : Int) < (n : Int)) = true := decide_eq_true (by omega); have hd2' : decide (i2 < n) = true := decide_eq_true hlt2
            cases hin2 : inW (l.map (·.f0)) i2 with
            | true =>
              have HI2 := Aside0.mk hin2; clear hin2; obtain ⟨ad, rfl, z0, -, -⟩ := sg_at HC.out i2 hlt2 (by rw [← HN.out]; exact hlt2); have HCS := Aside0.mk (catR_succ (l.map (·.f0)) i i2 HQ.out.1 (by rw [List.length_map, ← HN.out]; exact hlt2)); simp only [List.getElem_map] at HCS; obtain ⟨x, hx⟩ : ∃ x, x = (l[i2]'(by rw [← HN.out]; exact hlt2)).f0 := ⟨_, rfl⟩; rw [← hx] at z0 HCS
              have hsz : t.size + x.size ≤ 9223372036854775807 := by
                have h1 := catR_size (l.map (·.f0)) i (i2 + 1); rw [HCS.out, ← HT.out, ByteArray.size_append] at h1; have := HSZ.out; omega
              have Z0 := Aside0.mk z0; clear z0 hx; go_upto_region 8 with (go_at_call 69; go_must (refine (HW.out wr HS2.out.below i2 hlt2).mono ?_; rw [HI2.out]; rintro E w3 ⟨rfl, p1⟩; have HS3 := Aside0.mk (HS2.out.later p1); clear p1)); have hcell := cell_later HS3.out.below Z0.out; go_wp2; go_roundw
              case rel => exact ⟨i2 + 1, t ++ x, by go_num, rfl, ⟨by have := HQ.out.1; omega, by omega, PJ_step HQ.out.2.2 (by rw [← HN.out]; exact hlt2) HI2.out⟩, ⟨by rw [HCS.out, HT.out]⟩, HS3⟩
              case measure => simp [intOf]; omega
            | false =>
              have HI2 := Aside0.mk hin2; clear hin2
              have hii : i < i2 := by
                have := HQ.out.1; rcases Nat.lt_or_ge i i2 with h | h
                · exact h
                · exact absurd (show i2 = i by omega) (fun e => by have h1 := HI.out; have h2 := HI2.out; rw [e, h1] at h2; cases h2)
              go_upto_region 10 with (go_at_call 69; go_must (refine (HW.out wr HS2.out.below i2 hlt2).mono ?_; rw [HI2.out]; rintro E w3 ⟨rfl, p1⟩; have HS3 := Aside0.mk (HS2.out.later p1); clear p1)); have HPC := Aside0.mk (PJ_close HQ.out.2.2 (by rw [← HN.out]; omega) (fun _ => HI2.out)); clear hd2 hd2' hlt2; have hle : i2 ≤ n := HQ.out.2.1; obtain ⟨j, rfl⟩ : ∃ j, i2 = j + 1 := ⟨i2 - 1, by omega⟩; obtain ⟨ad0, e0, -, Z1, -⟩ := sg_at HC.out i (by omega) (by rw [← HN.out]; omega); obtain ⟨ad1, e1, -, -, Z2⟩ := sg_at HC.out j (by omega) (by rw [← HN.out]; omega); obtain rfl : ad1 = ad0 := Option.some.inj (e1.symm.trans e0); subst e0; clear e1; (have hil : i < l.length := by rw [← HN.out]; omega); (have hjl : j < l.length := by rw [← HN.out]; omega); (have hg1 : (gAt l i).f1 = l[i].f1 := by rw [gAt_eq]); (have hg2 : (gAt l j).f2 = l[j].f2 := by rw [gAt_eq]); obtain ⟨a1, ha1⟩ : ∃ a1, a1 = l[i].f1 := ⟨_, rfl⟩; obtain ⟨a2, ha2⟩ : ∃ a2, a2 = l[j].f2 := ⟨_, rfl⟩; rw [← ha1] at Z1 hg1; rw [← ha2] at Z2 hg2; obtain ⟨ky, hky⟩ : ∃ ky, ky = keyS (bytesOf t) := ⟨_, rfl⟩
              have HX := Aside0.mk (show wordOf l (i, j + 1) = ⟨ky, ⟨i, ((j + 1 : Nat) : Int), a1, a2⟩⟩ by
                unfold wordOf keyR; simp only [Nat.add_sub_cancel, hg1, hg2]
                rw [← HT.out, hky])
              have hts : t.size ≤ 13000000 := by
                have h1 := catR_size (l.map (·.f0)) i (j + 1); rw [← HT.out] at h1; have := HSZ.out; omega
              have HKEY := Aside0.mk (fun (W : World) (h : Below w.heap.size w W) => KeyR W (HG.out.below h) t (by omega)); rw [← hky] at HKEY; (have hwj : wrap64 (((j + 1 : Nat) : Int) - 1) = (j : Int) := by unfold wrap64; omega); (have hwj3 : IntKind.i64.wrap (j : Int) = (j : Int) := by rw [IntKind.wrap_i64]; omega); have hjn : (n ≤ j) = False := eq_false (by omega); (have hwj2 : wrap64 ((j : Int) + 1 - 1) = (j : Int) := by unfold wrap64; omega); have ZA := Aside0.mk Z1; have ZB := Aside0.mk Z2; (have kb := fun W => print_bytes (P := Tryd.prog) 9 23 5 Tryd.underlying9 Tryd.underlying23 Tryd.underlying5 t W); have HB2 := Aside0.mk (fun W : World => bytes_below (Below.refl W.heap.size W) (Nat.le_refl _) 5 t); have HBR := Aside0.mk (fun W : World => bytes_reads W 5 t (by omega)); obtain ⟨x, hx⟩ : ∃ x : SW, x = ⟨ky, ⟨i, ((j + 1 : Nat) : Int), a1, a2⟩⟩ := ⟨_, rfl⟩; have HXX := Aside0.mk hx; clear hg1 hg2 ha1 ha2 hky Z1 Z2 hx; have SD := Aside0.mk (HS3.out.later ((Drawn0.refl w3).step 1).below); refine wp_region_held_drew (S := fun W => Below w.heap.size w W) (by kernel_rfl) SD.out.below (fun hS => ?_); refine wpAnyH_take (i := 0) (oi := { dst := some 36, op := _, type := _, pos := _, after := _, guard := _ }) (v := u3) rfl (by kernel_rfl) (by kernel_rfl) (by kernel_rfl) (fun _ _ _ h => h) (Or.inl ⟨by rfl, fun W hW => ?_⟩) hS ?_
              · (go_simp)
              (try simp only [Act.put, List.setIfInBounds_toArray, List.set_cons_zero, List.set_cons_succ]); refine wpAnyH_take (i := 1) (oi := { dst := some 37, op := _, type := _, pos := _, after := _, guard := _ }) (v := .string t) rfl (by kernel_rfl) (by kernel_rfl) (by kernel_rfl) (fun _ _ _ h => h) (Or.inl ⟨by rfl, fun W hW => ?_⟩) hS ?_
              · (go_simp)
              (try simp only [Act.put, List.setIfInBounds_toArray, List.set_cons_zero, List.set_cons_succ]); refine wpAnyH_take (i := 4) (oi := { dst := some 40, op := _, type := _, pos := _, after := _, guard := _ }) (v := .int .i64 (i : Int)) rfl (by kernel_rfl) (by kernel_rfl) (by kernel_rfl) (fun _ _ _ h => h) (Or.inl ⟨by rfl, fun W hW => ?_⟩) hS ?_
              · (go_simp)
              (try simp only [Act.put, List.setIfInBounds_toArray, List.set_cons_zero, List.set_cons_succ]); refine wpAnyH_take (i := 5) (oi := { dst := some 41, op := _, type := _, pos := _, after := _, guard := _ }) (v := .int .i64 ((j + 1 : Nat) : Int)) rfl (by kernel_rfl) (by kernel_rfl) (by kernel_rfl) (fun _ _ _ h => h) (Or.inl ⟨by rfl, fun W hW => ?_⟩) hS ?_
              · (go_simp)
              (try simp only [Act.put, List.setIfInBounds_toArray, List.set_cons_zero, List.set_cons_succ]); refine wpAnyH_take (i := 6) (oi := { dst := some 42, op := _, type := _, pos := _, after := _, guard := _ }) (v := .slice (some ad1) n c) rfl (by kernel_rfl) (by kernel_rfl) (by kernel_rfl) (fun _ _ _ h => h) (Or.inl ⟨by rfl, fun W hW => ?_⟩) hS ?_
              · (go_simp)
              (try simp only [Act.put, List.setIfInBounds_toArray, List.set_cons_zero, List.set_cons_succ]); refine wpAnyH_take (i := 7) (oi := { dst := some 43, op := _, type := _, pos := _, after := _, guard := _ }) (v := .int .i64 (i : Int)) rfl (by kernel_rfl) (by kernel_rfl) (by kernel_rfl) (fun _ _ _ h => h) (Or.inl ⟨by rfl, fun W hW => ?_⟩) hS ?_
              · (go_simp)
              (try simp only [Act.put, List.setIfInBounds_toArray, List.set_cons_zero, List.set_cons_succ]); refine wpAnyH_take (i := 8) (oi := { dst := some 44, op := _, type := _, pos := _, after := _, guard := _ }) (v := .pointer (some (ad1.add (i * 3)))) rfl (by kernel_rfl) (by kernel_rfl) (by kernel_rfl) (fun _ _ _ h => h) (Or.inl ⟨by rfl, fun W hW => ?_⟩) hS ?_
              · (go_simp)
              (try simp only [Act.put, List.setIfInBounds_toArray, List.set_cons_zero, List.set_cons_succ]); refine wpAnyH_take (i := 9) (oi := { dst := some 45, op := _, type := _, pos := _, after := _, guard := _ }) (v := .pointer (some ⟨(ad1.add (i * 3)).block, (ad1.add (i * 3)).off + 1, none⟩)) rfl (by kernel_rfl) (by kernel_rfl) (by kernel_rfl) (fun _ _ _ h => h) (Or.inl ⟨by rfl, fun W hW => ?_⟩) hS ?_
              · (go_simp)
              (try simp only [Act.put, List.setIfInBounds_toArray, List.set_cons_zero, List.set_cons_succ]); refine wpAnyH_take (i := 10) (oi := { dst := some 46, op := _, type := _, pos := _, after := _, guard := _ }) (v := .int .i64 a1) rfl (by kernel_rfl) (by kernel_rfl) (by kernel_rfl) (fun _ _ _ h => h) (Or.inl ⟨by rfl, fun W hW => ?_⟩) hS ?_
              · (have hcell := cell_later hW ZA.out; go_simp)
              (try simp only [Act.put, List.setIfInBounds_toArray, List.set_cons_zero, List.set_cons_succ]); refine wpAnyH_take (i := 11) (oi := { dst := some 47, op := _, type := _, pos := _, after := _, guard := _ }) (v := .slice (some ad1) n c) rfl (by kernel_rfl) (by kernel_rfl) (by kernel_rfl) (fun _ _ _ h => h) (Or.inl ⟨by rfl, fun W hW => ?_⟩) hS ?_
              · (go_simp)
              (try simp only [Act.put, List.setIfInBounds_toArray, List.set_cons_zero, List.set_cons_succ]); refine wpAnyH_take (i := 12) (oi := { dst := some 48, op := _, type := _, pos := _, after := _, guard := _ }) (v := .int .i64 ((j + 1 : Nat) : Int)) rfl (by kernel_rfl) (by kernel_rfl) (by kernel_rfl) (fun _ _ _ h => h) (Or.inl ⟨by rfl, fun W hW => ?_⟩) hS ?_
              · (go_simp)
              (try simp only [Act.put, List.setIfInBounds_toArray, List.set_cons_zero, List.set_cons_succ]); refine wpAnyH_take (i := 13) (oi := { dst := some 49, op := _, type := _, pos := _, after := _, guard := _ }) (v := .int .i64 (j : Int)) rfl (by kernel_rfl) (by kernel_rfl) (by kernel_rfl) (fun _ _ _ h => h) (Or.inl ⟨by rfl, fun W hW => ?_⟩) hS ?_
              · (go_simp)
              (try simp only [Act.put, List.setIfInBounds_toArray, List.set_cons_zero, List.set_cons_succ]); refine wpAnyH_take (i := 14) (oi := { dst := some 50, op := _, type := _, pos := _, after := _, guard := _ }) (v := .pointer (some (ad1.add (j * 3)))) rfl (by kernel_rfl) (by kernel_rfl) (by kernel_rfl) (fun _ _ _ h => h) (Or.inl ⟨by rfl, fun W hW => ?_⟩) hS ?_
              · (go_simp)
              (try simp only [Act.put, List.setIfInBounds_toArray, List.set_cons_zero, List.set_cons_succ]); refine wpAnyH_take (i := 15) (oi := { dst := some 51, op := _, type := _, pos := _, after := _, guard := _ }) (v := .pointer (some ⟨(ad1.add (j * 3)).block, (ad1.add (j * 3)).off + 2, none⟩)) rfl (by kernel_rfl) (by kernel_rfl) (by kernel_rfl) (fun _ _ _ h => h) (Or.inl ⟨by rfl, fun W hW => ?_⟩) hS ?_
              · (go_simp)
              (try simp only [Act.put, List.setIfInBounds_toArray, List.set_cons_zero, List.set_cons_succ]); refine wpAnyH_take (i := 16) (oi := { dst := some 52, op := _, type := _, pos := _, after := _, guard := _ }) (v := .int .i64 a2) rfl (by kernel_rfl) (by kernel_rfl) (by kernel_rfl) (fun _ _ _ h => h) (Or.inl ⟨by rfl, fun W hW => ?_⟩) hS ?_
              · (have hcell := cell_later hW ZB.out; go_simp)
              (try simp only [Act.put, List.setIfInBounds_toArray, List.set_cons_zero, List.set_cons_succ]); refine wpAnyH_take (i := 17) (oi := { dst := some 53, op := _, type := _, pos := _, after := _, guard := _ }) (v := .agg #[.int .i64 (i : Int), .int .i64 ((j + 1 : Nat) : Int), .int .i64 a1, .int .i64 a2]) rfl (by kernel_rfl) (by kernel_rfl) (by kernel_rfl) (fun _ _ _ h => h) (Or.inl ⟨by rfl, fun W hW => ?_⟩) hS ?_
              · (go_simp)
              (try simp only [Act.put, List.setIfInBounds_toArray, List.set_cons_zero, List.set_cons_succ]); refine wpAnyH_ready (rs := [2]) (by kernel_rfl) (by simp) ?_; refine AllReadyH.cons (o := { dst := some 38, op := _, type := _, pos := _, after := _, guard := _ }) rfl (fun K hK => ?_) AllReadyH.nil; go_simp; have S4 := Aside0.mk (SD.out.later (HB2.out _)); have C4 := Aside0.mk (HBR.out (w3.drewN 1)); refine hK.out _ _ S4.out.below (fun hS2 => ?_); clear hK K hS; have hS := hS2; clear hS2; (try simp only [Act.put, List.setIfInBounds_toArray, List.set_cons_zero, List.set_cons_succ]); refine wpAnyH_ready (rs := [3]) (by kernel_rfl) (by simp) ?_; refine AllReadyH.cons (o := { dst := some 39, op := _, type := _, pos := _, after := _, guard := _ }) rfl (fun K hK => ?_) AllReadyH.nil; go_simp; refine (HKEY.out _ S4.out.below _ t.size _ (Hp.rdC (HBR.out w3.drew)) (bytesOf_length t).symm (grownCap_ge _ _ _ _)).mono ?_; rintro E w5 ⟨rfl, p1⟩; have S5 := Aside0.mk (S4.out.later p1); clear p1; go_wp2_with fail; refine hK.out _ _ S5.out.below (fun hS2 => ?_); clear hK K hS; have hS := hS2; clear hS2; (try simp only [Act.put, List.setIfInBounds_toArray, List.set_cons_zero, List.set_cons_succ]); refine wpAnyH_take (i := 18) (oi := { dst := some 54, op := _, type := _, pos := _, after := _, guard := _ }) (v := .agg #[.string ky, .int .i64 (i : Int), .int .i64 ((j + 1 : Nat) : Int), .int .i64 a1, .int .i64 a2]) rfl (by kernel_rfl) (by kernel_rfl) (by kernel_rfl) (fun _ _ _ h => h) (Or.inl ⟨by rfl, fun W hW => ?_⟩) hS ?_
              · (go_simp)
              (try simp only [Act.put, List.setIfInBounds_toArray, List.set_cons_zero, List.set_cons_succ]); refine wpAnyH_ready (rs := [19]) (by kernel_rfl) (by simp) ?_; refine AllReadyH.cons (o := { dst := some 55, op := _, type := _, pos := _, after := _, guard := _ }) rfl (fun K hK => ?_) AllReadyH.nil; refine Kd.R_lit_step kW _ TW (by rfl) (N := 55) rfl (xs := [x]) (inner := [.string ky, .int .i64 (i : Int), .int .i64 ((j + 1 : Nat) : Int), .int .i64 a1, .int .i64 a2]) (ok := fun _ => True) (okp := fun _ => True) ?hr (Reps.c5 ?hm (Reps.none _ _)) (fun _ hk => hk) trivial (Below.refl _ _) (Nat.le_refl _) (by simp) (fun v6 w6 hR6 hb6 hg6 hat6 => ?_)
              case hr => first | (go_simp; done) | (go_simp; rfl)
              case hm => rw [HXX.out]; exact k60_mkM _ _ _ _
              obtain ⟨A6, c6, rfl, hc6, hC6⟩ := Kd.R_reads hR6; have S6 := Aside0.mk (S5.out.later hb6); clear hR6 hb6 hg6 hat6; refine hK.out _ _ S6.out.below (fun hS2 => ?_); clear hK K hS; have hS := hS2; clear hS2; (try simp only [Act.put, List.setIfInBounds_toArray, List.set_cons_zero, List.set_cons_succ]); refine wpAnyH_ready (rs := [20]) (by kernel_rfl) (by simp) ?_; refine AllReadyH.cons (o := { dst := some 56, op := _, type := _, pos := _, after := _, guard := _ }) rfl (fun K hK => ?_) AllReadyH.nil; obtain ⟨ok7, q1, q2, q3⟩ := Sep.row (d := kW) (e := TW) (base := w.heap.size) (v := u3) (xs := out) S6.out 0 rfl; refine Kd.R_append_rows_step kW (Rr := kW.K w6) (w0 := w6) w.heap.size (by rfl) (.tmp 36) (.tmp 55) 49 TW (.agg #[.string ⟨#[]⟩, .int .i64 0, .int .i64 0, .int .i64 0, .int .i64 0]) 48 rfl Tryd.underlying49 infoWd rfl (by decide) (by decide) u3 out [x] A6 [x].length c6 ok7 (fun _ => False) rfl rfl q1 hC6 (fun x cs h => kW_KM x cs h) (fun _ h => h.elim) q2 (Below.refl _ _) S6.out.below.size (by have := PJ_len HP.out.2; have := HN.out; simp only [List.length_singleton]; omega) (fun v7 w7 hR7 hb7 hg7 hat7 => ?_); have S7 := Aside0.mk (q3 v7 w7 _ hR7 hg7); clear q1 q2 q3 hR7 hb7 hg7 hat7; refine hK.out _ _ S7.out.below (fun hS2 => ?_); clear hK K hS; have hS := hS2; clear hS2; (try simp only [Act.put, List.setIfInBounds_toArray, List.set_cons_zero, List.set_cons_succ]); refine wpAnyH_take (i := 21) (oi := { dst := some 3, op := _, type := _, pos := _, after := _, guard := _ }) (v := v7) rfl (by kernel_rfl) (by kernel_rfl) (by kernel_rfl) (fun _ _ _ h => h) (Or.inl ⟨by rfl, fun W hW => ?_⟩) hS ?_
              · (go_simp)
              (try simp only [Act.put, List.setIfInBounds_toArray, List.set_cons_zero, List.set_cons_succ]); refine wpAnyH_done (by kernel_rfl) ?_ _; go_wp2; go_roundw
              case rel => exact ⟨j + 1 + 1, out ++ [x], by go_num, ⟨by omega, by have h := HPC.out; rw [HX.out, ← HXX.out] at h; exact h⟩, S7⟩
              case measure => simp [intOf]; omega
          · have hd2 : decide ((i2 : Int) < (n : Int)) = false := decide_eq_false (by omega); have hd2' : decide (i2 < n) = false := decide_eq_false hlt2; have hle : i2 ≤ n := HQ.out.2.1; (have hii : i < i2 := by omega); go_upto_region 10 with (fail); have HPC := Aside0.mk (PJ_close HQ.out.2.2 (by rw [← HN.out]; omega) (fun h => absurd h (by rw [← HN.out]; exact hlt2))); clear hd2 hd2' hlt2; have HS3 := HS2; obtain ⟨j, rfl⟩ : ∃ j, i2 = j + 1 := ⟨i2 - 1, by omega⟩; obtain ⟨ad0, e0, -, Z1, -⟩ := sg_at HC.out i (by omega) (by rw [← HN.out]; omega); obtain ⟨ad1, e1, -, -, Z2⟩ := sg_at HC.out j (by omega) (by rw [← HN.out]; omega); obtain rfl : ad1 = ad0 := Option.some.inj (e1.symm.trans e0); subst e0; clear e1; (have hil : i < l.length := by rw [← HN.out]; omega); (have hjl : j < l.length := by rw [← HN.out]; omega); (have hg1 : (gAt l i).f1 = l[i].f1 := by rw [gAt_eq]); (have hg2 : (gAt l j).f2 = l[j].f2 := by rw [gAt_eq]); obtain ⟨a1, ha1⟩ : ∃ a1, a1 = l[i].f1 := ⟨_, rfl⟩; obtain ⟨a2, ha2⟩ : ∃ a2, a2 = l[j].f2 := ⟨_, rfl⟩; rw [← ha1] at Z1 hg1; rw [← ha2] at Z2 hg2; obtain ⟨ky, hky⟩ : ∃ ky, ky = keyS (bytesOf t) := ⟨_, rfl⟩
            have HX := Aside0.mk (show wordOf l (i, j + 1) = ⟨ky, ⟨i, ((j + 1 : Nat) : Int), a1, a2⟩⟩ by
              unfold wordOf keyR; simp only [Nat.add_sub_cancel, hg1, hg2]
              rw [← HT.out, hky])
            have hts : t.size ≤ 13000000 := by
              have h1 := catR_size (l.map (·.f0)) i (j + 1); rw [← HT.out] at h1; have := HSZ.out; omega
            have HKEY := Aside0.mk (fun (W : World) (h : Below w.heap.size w W) => KeyR W (HG.out.below h) t (by omega)); rw [← hky] at HKEY; (have hwj : wrap64 (((j + 1 : Nat) : Int) - 1) = (j : Int) := by unfold wrap64; omega); (have hwj3 : IntKind.i64.wrap (j : Int) = (j : Int) := by rw [IntKind.wrap_i64]; omega); have hjn : (n ≤ j) = False := eq_false (by omega); (have hwj2 : wrap64 ((j : Int) + 1 - 1) = (j : Int) := by unfold wrap64; omega); have ZA := Aside0.mk Z1; have ZB := Aside0.mk Z2; (have kb := fun W => print_bytes (P := Tryd.prog) 9 23 5 Tryd.underlying9 Tryd.underlying23 Tryd.underlying5 t W); have HB2 := Aside0.mk (fun W : World => bytes_below (Below.refl W.heap.size W) (Nat.le_refl _) 5 t); have HBR := Aside0.mk (fun W : World => bytes_reads W 5 t (by omega)); obtain ⟨x, hx⟩ : ∃ x : SW, x = ⟨ky, ⟨i, ((j + 1 : Nat) : Int), a1, a2⟩⟩ := ⟨_, rfl⟩; have HXX := Aside0.mk hx; clear hg1 hg2 ha1 ha2 hky Z1 Z2 hx; have SD := Aside0.mk (HS3.out.later ((Drawn0.refl wr).step 1).below); refine wp_region_held_drew (S := fun W => Below w.heap.size w W) (by kernel_rfl) SD.out.below (fun hS => ?_); refine wpAnyH_take (i := 0) (oi := { dst := some 36, op := _, type := _, pos := _, after := _, guard := _ }) (v := u3) rfl (by kernel_rfl) (by kernel_rfl) (by kernel_rfl) (fun _ _ _ h => h) (Or.inl ⟨by rfl, fun W hW => ?_⟩) hS ?_
            · (go_simp)
            (try simp only [Act.put, List.setIfInBounds_toArray, List.set_cons_zero, List.set_cons_succ]); refine wpAnyH_take (i := 1) (oi := { dst := some 37, op := _, type := _, pos := _, after := _, guard := _ }) (v := .string t) rfl (by kernel_rfl) (by kernel_rfl) (by kernel_rfl) (fun _ _ _ h => h) (Or.inl ⟨by rfl, fun W hW => ?_⟩) hS ?_
            · (go_simp)
            (try simp only [Act.put, List.setIfInBounds_toArray, List.set_cons_zero, List.set_cons_succ]); refine wpAnyH_take (i := 4) (oi := { dst := some 40, op := _, type := _, pos := _, after := _, guard := _ }) (v := .int .i64 (i : Int)) rfl (by kernel_rfl) (by kernel_rfl) (by kernel_rfl) (fun _ _ _ h => h) (Or.inl ⟨by rfl, fun W hW => ?_⟩) hS ?_
            · (go_simp)
            (try simp only [Act.put, List.setIfInBounds_toArray, List.set_cons_zero, List.set_cons_succ]); refine wpAnyH_take (i := 5) (oi := { dst := some 41, op := _, type := _, pos := _, after := _, guard := _ }) (v := .int .i64 ((j + 1 : Nat) : Int)) rfl (by kernel_rfl) (by kernel_rfl) (by kernel_rfl) (fun _ _ _ h => h) (Or.inl ⟨by rfl, fun W hW => ?_⟩) hS ?_
            · (go_simp)
            (try simp only [Act.put, List.setIfInBounds_toArray, List.set_cons_zero, List.set_cons_succ]); refine wpAnyH_take (i := 6) (oi := { dst := some 42, op := _, type := _, pos := _, after := _, guard := _ }) (v := .slice (some ad1) n c) rfl (by kernel_rfl) (by kernel_rfl) (by kernel_rfl) (fun _ _ _ h => h) (Or.inl ⟨by rfl, fun W hW => ?_⟩) hS ?_
            · (go_simp)
            (try simp only [Act.put, List.setIfInBounds_toArray, List.set_cons_zero, List.set_cons_succ]); refine wpAnyH_take (i := 7) (oi := { dst := some 43, op := _, type := _, pos := _, after := _, guard := _ }) (v := .int .i64 (i : Int)) rfl (by kernel_rfl) (by kernel_rfl) (by kernel_rfl) (fun _ _ _ h => h) (Or.inl ⟨by rfl, fun W hW => ?_⟩) hS ?_
            · (go_simp)
            (try simp only [Act.put, List.setIfInBounds_toArray, List.set_cons_zero, List.set_cons_succ]); refine wpAnyH_take (i := 8) (oi := { dst := some 44, op := _, type := _, pos := _, after := _, guard := _ }) (v := .pointer (some (ad1.add (i * 3)))) rfl (by kernel_rfl) (by kernel_rfl) (by kernel_rfl) (fun _ _ _ h => h) (Or.inl ⟨by rfl, fun W hW => ?_⟩) hS ?_
            · (go_simp)
            (try simp only [Act.put, List.setIfInBounds_toArray, List.set_cons_zero, List.set_cons_succ]); refine wpAnyH_take (i := 9) (oi := { dst := some 45, op := _, type := _, pos := _, after := _, guard := _ }) (v := .pointer (some ⟨(ad1.add (i * 3)).block, (ad1.add (i * 3)).off + 1, none⟩)) rfl (by kernel_rfl) (by kernel_rfl) (by kernel_rfl) (fun _ _ _ h => h) (Or.inl ⟨by rfl, fun W hW => ?_⟩) hS ?_
            · (go_simp)
            (try simp only [Act.put, List.setIfInBounds_toArray, List.set_cons_zero, List.set_cons_succ]); refine wpAnyH_take (i := 10) (oi := { dst := some 46, op := _, type := _, pos := _, after := _, guard := _ }) (v := .int .i64 a1) rfl (by kernel_rfl) (by kernel_rfl) (by kernel_rfl) (fun _ _ _ h => h) (Or.inl ⟨by rfl, fun W hW => ?_⟩) hS ?_
            · (have hcell := cell_later hW ZA.out; go_simp)
            (try simp only [Act.put, List.setIfInBounds_toArray, List.set_cons_zero, List.set_cons_succ]); refine wpAnyH_take (i := 11) (oi := { dst := some 47, op := _, type := _, pos := _, after := _, guard := _ }) (v := .slice (some ad1) n c) rfl (by kernel_rfl) (by kernel_rfl) (by kernel_rfl) (fun _ _ _ h => h) (Or.inl ⟨by rfl, fun W hW => ?_⟩) hS ?_
            · (go_simp)
            (try simp only [Act.put, List.setIfInBounds_toArray, List.set_cons_zero, List.set_cons_succ]); refine wpAnyH_take (i := 12) (oi := { dst := some 48, op := _, type := _, pos := _, after := _, guard := _ }) (v := .int .i64 ((j + 1 : Nat) : Int)) rfl (by kernel_rfl) (by kernel_rfl) (by kernel_rfl) (fun _ _ _ h => h) (Or.inl ⟨by rfl, fun W hW => ?_⟩) hS ?_
            · (go_simp)
            (try simp only [Act.put, List.setIfInBounds_toArray, List.set_cons_zero, List.set_cons_succ]); refine wpAnyH_take (i := 13) (oi := { dst := some 49, op := _, type := _, pos := _, after := _, guard := _ }) (v := .int .i64 (j : Int)) rfl (by kernel_rfl) (by kernel_rfl) (by kernel_rfl) (fun _ _ _ h => h) (Or.inl ⟨by rfl, fun W hW => ?_⟩) hS ?_
            · (go_simp)
            (try simp only [Act.put, List.setIfInBounds_toArray, List.set_cons_zero, List.set_cons_succ]); refine wpAnyH_take (i := 14) (oi := { dst := some 50, op := _, type := _, pos := _, after := _, guard := _ }) (v := .pointer (some (ad1.add (j * 3)))) rfl (by kernel_rfl) (by kernel_rfl) (by kernel_rfl) (fun _ _ _ h => h) (Or.inl ⟨by rfl, fun W hW => ?_⟩) hS ?_
            · (go_simp)
            (try simp only [Act.put, List.setIfInBounds_toArray, List.set_cons_zero, List.set_cons_succ]); refine wpAnyH_take (i := 15) (oi := { dst := some 51, op := _, type := _, pos := _, after := _, guard := _ }) (v := .pointer (some ⟨(ad1.add (j * 3)).block, (ad1.add (j * 3)).off + 2, none⟩)) rfl (by kernel_rfl) (by kernel_rfl) (by kernel_rfl) (fun _ _ _ h => h) (Or.inl ⟨by rfl, fun W hW => ?_⟩) hS ?_
            · (go_simp)
            (try simp only [Act.put, List.setIfInBounds_toArray, List.set_cons_zero, List.set_cons_succ]); refine wpAnyH_take (i := 16) (oi := { dst := some 52, op := _, type := _, pos := _, after := _, guard := _ }) (v := .int .i64 a2) rfl (by kernel_rfl) (by kernel_rfl) (by kernel_rfl) (fun _ _ _ h => h) (Or.inl ⟨by rfl, fun W hW => ?_⟩) hS ?_
            · (have hcell := cell_later hW ZB.out; go_simp)
            (try simp only [Act.put, List.setIfInBounds_toArray, List.set_cons_zero, List.set_cons_succ]); refine wpAnyH_take (i := 17) (oi := { dst := some 53, op := _, type := _, pos := _, after := _, guard := _ }) (v := .agg #[.int .i64 (i : Int), .int .i64 ((j + 1 : Nat) : Int), .int .i64 a1, .int .i64 a2]) rfl (by kernel_rfl) (by kernel_rfl) (by kernel_rfl) (fun _ _ _ h => h) (Or.inl ⟨by rfl, fun W hW => ?_⟩) hS ?_
            · (go_simp)
            (try simp only [Act.put, List.setIfInBounds_toArray, List.set_cons_zero, List.set_cons_succ]); refine wpAnyH_ready (rs := [2]) (by kernel_rfl) (by simp) ?_; refine AllReadyH.cons (o := { dst := some 38, op := _, type := _, pos := _, after := _, guard := _ }) rfl (fun K hK => ?_) AllReadyH.nil; go_simp; have S4 := Aside0.mk (SD.out.later (HB2.out _)); have C4 := Aside0.mk (HBR.out (wr.drewN 1)); refine hK.out _ _ S4.out.below (fun hS2 => ?_); clear hK K hS; have hS := hS2; clear hS2; (try simp only [Act.put, List.setIfInBounds_toArray, List.set_cons_zero, List.set_cons_succ]); refine wpAnyH_ready (rs := [3]) (by kernel_rfl) (by simp) ?_; refine AllReadyH.cons (o := { dst := some 39, op := _, type := _, pos := _, after := _, guard := _ }) rfl (fun K hK => ?_) AllReadyH.nil; go_simp; refine (HKEY.out _ S4.out.below _ t.size _ (Hp.rdC (HBR.out wr.drew)) (bytesOf_length t).symm (grownCap_ge _ _ _ _)).mono ?_; rintro E w5 ⟨rfl, p1⟩; have S5 := Aside0.mk (S4.out.later p1); clear p1; go_wp2_with fail; refine hK.out _ _ S5.out.below (fun hS2 => ?_); clear hK K hS; have hS := hS2; clear hS2; (try simp only [Act.put, List.setIfInBounds_toArray, List.set_cons_zero, List.set_cons_succ]); refine wpAnyH_take (i := 18) (oi := { dst := some 54, op := _, type := _, pos := _, after := _, guard := _ }) (v := .agg #[.string ky, .int .i64 (i : Int), .int .i64 ((j + 1 : Nat) : Int), .int .i64 a1, .int .i64 a2]) rfl (by kernel_rfl) (by kernel_rfl) (by kernel_rfl) (fun _ _ _ h => h) (Or.inl ⟨by rfl, fun W hW => ?_⟩) hS ?_
            · (go_simp)
            (try simp only [Act.put, List.setIfInBounds_toArray, List.set_cons_zero, List.set_cons_succ]); refine wpAnyH_ready (rs := [19]) (by kernel_rfl) (by simp) ?_; refine AllReadyH.cons (o := { dst := some 55, op := _, type := _, pos := _, after := _, guard := _ }) rfl (fun K hK => ?_) AllReadyH.nil; refine Kd.R_lit_step kW _ TW (by rfl) (N := 55) rfl (xs := [x]) (inner := [.string ky, .int .i64 (i : Int), .int .i64 ((j + 1 : Nat) : Int), .int .i64 a1, .int .i64 a2]) (ok := fun _ => True) (okp := fun _ => True) ?hr (Reps.c5 ?hm (Reps.none _ _)) (fun _ hk => hk) trivial (Below.refl _ _) (Nat.le_refl _) (by simp) (fun v6 w6 hR6 hb6 hg6 hat6 => ?_)
            case hr => first | (go_simp; done) | (go_simp; rfl)
            case hm => rw [HXX.out]; exact k60_mkM _ _ _ _
            obtain ⟨A6, c6, rfl, hc6, hC6⟩ := Kd.R_reads hR6; have S6 := Aside0.mk (S5.out.later hb6); clear hR6 hb6 hg6 hat6; refine hK.out _ _ S6.out.below (fun hS2 => ?_); clear hK K hS; have hS := hS2; clear hS2; (try simp only [Act.put, List.setIfInBounds_toArray, List.set_cons_zero, List.set_cons_succ]); refine wpAnyH_ready (rs := [20]) (by kernel_rfl) (by simp) ?_; refine AllReadyH.cons (o := { dst := some 56, op := _, type := _, pos := _, after := _, guard := _ }) rfl (fun K hK => ?_) AllReadyH.nil; obtain ⟨ok7, q1, q2, q3⟩ := Sep.row (d := kW) (e := TW) (base := w.heap.size) (v := u3) (xs := out) S6.out 0 rfl; refine Kd.R_append_rows_step kW (Rr := kW.K w6) (w0 := w6) w.heap.size (by rfl) (.tmp 36) (.tmp 55) 49 TW (.agg #[.string ⟨#[]⟩, .int .i64 0, .int .i64 0, .int .i64 0, .int .i64 0]) 48 rfl Tryd.underlying49 infoWd rfl (by decide) (by decide) u3 out [x] A6 [x].length c6 ok7 (fun _ => False) rfl rfl q1 hC6 (fun x cs h => kW_KM x cs h) (fun _ h => h.elim) q2 (Below.refl _ _) S6.out.below.size (by have := PJ_len HP.out.2; have := HN.out; simp only [List.length_singleton]; omega) (fun v7 w7 hR7 hb7 hg7 hat7 => ?_); have S7 := Aside0.mk (q3 v7 w7 _ hR7 hg7); clear q1 q2 q3 hR7 hb7 hg7 hat7; refine hK.out _ _ S7.out.below (fun hS2 => ?_); clear hK K hS; have hS := hS2; clear hS2; (try simp only [Act.put, List.setIfInBounds_toArray, List.set_cons_zero, List.set_cons_succ]); refine wpAnyH_take (i := 21) (oi := { dst := some 3, op := _, type := _, pos := _, after := _, guard := _ }) (v := v7) rfl (by kernel_rfl) (by kernel_rfl) (by kernel_rfl) (fun _ _ _ h => h) (Or.inl ⟨by rfl, fun W hW => ?_⟩) hS ?_
            · (go_simp)
            (try simp only [Act.put, List.setIfInBounds_toArray, List.set_cons_zero, List.set_cons_succ]); refine wpAnyH_done (by kernel_rfl) ?_ _; go_wp2; go_roundw
            case rel => exact ⟨j + 1 + 1, out ++ [x], by go_num, ⟨by omega, by have h := HPC.out; rw [HX.out, ← HXX.out] at h; exact h⟩, S7⟩
            case measure => simp [intOf]; omega
    · have hd : decide ((i : Int) < (n : Int)) = false := decide_eq_false (by omega); have hd' : decide (i < n) = false := decide_eq_false hlt; have HE := Aside0.mk (PJ_end HP.out.2 (by rw [← HN.out]; omega)); clear hlt; go_wp2; go_ret; exact ⟨u3, rfl, by rw [← HE.out]; exact post_of2 HS.out 0 rfl, HS.out.below⟩
end Go.Proofs.YthffpkdadffinaaDoor.Wj
namespace Go.Proofs.YthffpkdadffinaaDoor.X
set_option linter.unusedVariables false
set_option linter.unusedSimpArgs false
open Go.RowKit YthffpkdadffinaaDoorW.PrintWords YthffpkdadffinaaDoorW.PrintLast YthffpkdadffinaaDoorW.PrintMore
def words_Join.f (l : List S67) : Option (List S60) := if Wg.sizes (l.map (·.f0)) ≤ 13000000 ∧ l.length ≤ 13000000 then some (Wg.wordsF l) else none
theorem words_Join.calls (A0 : Option Addr) (c0 : Nat) (l0 : List S67) (r : List S60) (w : World) (hr0 : Kd.C k67 w A0 l0.length l0) (hc0 : l0.length ≤ c0) (h : words_Join.f l0 = some r) (hG0 : Va.G w) :
    Calls Tryd.prog 30 #[.slice A0 l0.length c0] w fun e w' => ∃ v0_ : Value, e = .returned v0_ ∧ Kd.R k60 60 w' w.heap.size (fun _ => True) v0_ r ∧ Below w.heap.size w w' := by
  unfold words_Join.f at h; split at h
  · rename_i hh; cases Option.some.inj h; exact Wj.JoinP w hG0 A0 l0.length c0 l0 hr0 rfl hc0 hh.1 hh.2
  · cases h
end Go.Proofs.YthffpkdadffinaaDoor.X
namespace Go.Proofs.YthffpkdadffinaaDoor.Sgy
set_option linter.unusedVariables false
set_option linter.unusedSimpArgs false
open Go.Proofs.YthffpkdadffinaaDoor.Ux (Bytes full)
open Go.Proofs.YthffpkdadffinaaDoor.Ot (rns)
open Go.RowKit YthffpkdadffinaaDoorW.PrintWords Hp Fm Ev0 X Va Oa Ob Vp0 Vr Vu Sga Sgb Sgd Sgp Sgq Sgt Sgu Sgv
theorem TextR (w : World) (A : Option Addr) (n c : Nat) (b : List Int) (hC : KB.C w A n b) (hn : n = b.length) (hc : n ≤ c) (hB : Bytes b) (hl : n ≤ 13000000) :
    Calls Tryd.prog 34 #[.slice A n c] w fun e w' => e = .returned (.string (txt (rns b))) ∧ Below w.heap.size w w' := by
  subst hn; obtain ⟨k, hk⟩ := Ev.rounds (textEv b hB (by omega)); exact tremaref03_Text.calls k A c b _ w hC hc hk
end Go.Proofs.YthffpkdadffinaaDoor.Sgy
namespace Go.Proofs.YthffpkdadffinaaDoor.Vcc
set_option linter.unusedVariables false
set_option linter.unusedSimpArgs false
open Go.RowKit YthffpkdadffinaaDoorW.PrintWords Hp X Vin
def g0 : List (Int × Int) := [(32, 32), (160, 160), (8192, 8202), (8232, 8233), (12288, 12288)]
def g1 : List (Int × Int) := [(48, 57), (178, 179), (185, 185), (188, 190), (1632, 1641), (65296, 65305)]
def g2 : List (Int × Int) := [(768, 879), (1155, 1161), (8400, 8412), (12441, 12442)]
def g3 : List (Int × Int) := [(33, 35), (37, 42), (44, 47), (58, 59), (63, 64), (91, 93), (95, 95), (123, 123), (125, 125), (161, 161), (167, 167), (171, 171), (182, 183), (187, 187), (191, 191), (903, 903), (8208, 8231), (8240, 8259), (12289, 12291)]
def g4 : List (Int × Int) := [(36, 36), (43, 43), (60, 62), (94, 94), (96, 96), (124, 124), (126, 126), (162, 166), (168, 169), (172, 172), (174, 177), (180, 180), (184, 184), (215, 215), (247, 247), (8352, 8384), (8592, 8959), (65533, 65533), (128512, 128591)]
def g5 : List (Int × Int) := [(65, 90), (97, 122), (170, 170), (181, 181), (186, 186), (192, 214), (216, 246), (248, 687), (902, 902), (904, 1023), (1024, 1153), (1162, 1327), (4352, 4607), (7680, 8124), (8486, 8486), (8490, 8491), (12353, 12438), (12449, 12538), (19968, 40959), (44032, 55203)]
def refT : List (List (Int × Int) × Int) := [(g0, 6), (g1, 3), (g2, 2), (g3, 4), (g4, 5), (g5, 1)]
def refC (r : Int) : Int := refG r 7 refT
set_option maxRecDepth 100000 in
set_option maxHeartbeats 16000000 in
theorem refCategory_walk (w : World) (r : Int) : Calls Tryd.prog 65 #[.int .i32 r] w fun e w' => e = .returned (.int .i64 (refC r)) ∧ Drawn0 w w' := by
  have HB := Aside0.mk (Drawn0.refl w); go_enter Tryd.func65, Tryd.ntmps65; go_upto_if 3 with (go_at_call 88; go_must (refine (InQ r _ _ HB.out).mono ?_; clear HB; rintro E w1 ⟨rfl, p1⟩; have HB := Aside0.mk p1; clear p1)); go_cut [3] (fun vq wq => vq = .bool (anyIn r g0) ∧ Aside0 (Drawn0 w wq))
  case first =>
    as_aux_lemma =>
     go_wp2_with (go_at_call 88; go_must (refine (InQ r _ _ HB.out).mono ?_; clear HB; rintro E w1 ⟨rfl, p1⟩; have HB := Aside0.mk p1; clear p1)); all_goals (go_meet; case rel => exact ⟨by simp [anyIn, g0, *], HB⟩)
  case rest =>
    as_aux_lemma =>
     obtain ⟨rfl, HB⟩ := hcut
     cases c0 : anyIn r g0 with
     | true =>
       have HV := Aside0.mk (show refC r = 6 by simp only [refC, refT, refG, c0, Bool.false_eq_true, if_false, if_true]); go_wp2; go_ret; exact ⟨by rw [HV.out]; rfl, HB.out⟩
     | false =>
       go_upto_if 16 with (go_at_call 88; go_must (refine (InQ r _ _ HB.out).mono ?_; clear HB; rintro E w1 ⟨rfl, p1⟩; have HB := Aside0.mk p1; clear p1)); go_cut [16] (fun vq wq => vq = .bool (anyIn r g1) ∧ Aside0 (Drawn0 w wq))
       case first =>
         as_aux_lemma =>
          go_wp2_with (go_at_call 88; go_must (refine (InQ r _ _ HB.out).mono ?_; clear HB; rintro E w1 ⟨rfl, p1⟩; have HB := Aside0.mk p1; clear p1)); all_goals (go_meet; case rel => exact ⟨by simp [anyIn, g1, *], HB⟩)
       case rest =>
         as_aux_lemma =>
          obtain ⟨rfl, HB⟩ := hcut
          cases c1 : anyIn r g1 with
          | true =>
            have HV := Aside0.mk (show refC r = 3 by simp only [refC, refT, refG, c0, c1, Bool.false_eq_true, if_false, if_true]); go_wp2; go_ret; exact ⟨by rw [HV.out]; rfl, HB.out⟩
          | false =>
            go_upto_if 31 with (go_at_call 88; go_must (refine (InQ r _ _ HB.out).mono ?_; clear HB; rintro E w1 ⟨rfl, p1⟩; have HB := Aside0.mk p1; clear p1)); go_cut [31] (fun vq wq => vq = .bool (anyIn r g2) ∧ Aside0 (Drawn0 w wq))
            case first =>
              as_aux_lemma =>
               go_wp2_with (go_at_call 88; go_must (refine (InQ r _ _ HB.out).mono ?_; clear HB; rintro E w1 ⟨rfl, p1⟩; have HB := Aside0.mk p1; clear p1)); all_goals (go_meet; case rel => exact ⟨by simp [anyIn, g2, *], HB⟩)
            case rest =>
              as_aux_lemma =>
               obtain ⟨rfl, HB⟩ := hcut
               cases c2 : anyIn r g2 with
               | true =>
                 have HV := Aside0.mk (show refC r = 2 by simp only [refC, refT, refG, c0, c1, c2, Bool.false_eq_true, if_false, if_true]); go_wp2; go_ret; exact ⟨by rw [HV.out]; rfl, HB.out⟩
               | false =>
                 go_upto_if 40 with (go_at_call 88; go_must (refine (InQ r _ _ HB.out).mono ?_; clear HB; rintro E w1 ⟨rfl, p1⟩; have HB := Aside0.mk p1; clear p1)); go_cut [40] (fun vq wq => vq = .bool (anyIn r g3) ∧ Aside0 (Drawn0 w wq))
                 case first =>
                   as_aux_lemma =>
                    go_wp2_with (go_at_call 88; go_must (refine (InQ r _ _ HB.out).mono ?_; clear HB; rintro E w1 ⟨rfl, p1⟩; have HB := Aside0.mk p1; clear p1)); all_goals (go_meet; case rel => exact ⟨by simp [anyIn, g3, *], HB⟩)
                 case rest =>
                   as_aux_lemma =>
                    obtain ⟨rfl, HB⟩ := hcut
                    cases c3 : anyIn r g3 with
                    | true =>
                      have HV := Aside0.mk (show refC r = 4 by simp only [refC, refT, refG, c0, c1, c2, c3, Bool.false_eq_true, if_false, if_true]); go_wp2; go_ret; exact ⟨by rw [HV.out]; rfl, HB.out⟩
                    | false =>
                      go_upto_if 87 with (go_at_call 88; go_must (refine (InQ r _ _ HB.out).mono ?_; clear HB; rintro E w1 ⟨rfl, p1⟩; have HB := Aside0.mk p1; clear p1)); go_cut [87] (fun vq wq => vq = .bool (anyIn r g4) ∧ Aside0 (Drawn0 w wq))
                      case first =>
                        as_aux_lemma =>
                         go_wp2_with (go_at_call 88; go_must (refine (InQ r _ _ HB.out).mono ?_; clear HB; rintro E w1 ⟨rfl, p1⟩; have HB := Aside0.mk p1; clear p1)); all_goals (go_meet; case rel => exact ⟨by simp [anyIn, g4, *], HB⟩)
                      case rest =>
                        as_aux_lemma =>
                         obtain ⟨rfl, HB⟩ := hcut
                         cases c4 : anyIn r g4 with
                         | true =>
                           have HV := Aside0.mk (show refC r = 5 by simp only [refC, refT, refG, c0, c1, c2, c3, c4, Bool.false_eq_true, if_false, if_true]); go_wp2; go_ret; exact ⟨by rw [HV.out]; rfl, HB.out⟩
                         | false =>
                           go_upto_if 134 with (go_at_call 88; go_must (refine (InQ r _ _ HB.out).mono ?_; clear HB; rintro E w1 ⟨rfl, p1⟩; have HB := Aside0.mk p1; clear p1)); go_cut [134] (fun vq wq => vq = .bool (anyIn r g5) ∧ Aside0 (Drawn0 w wq))
                           case first =>
                             as_aux_lemma =>
                              go_wp2_with (go_at_call 88; go_must (refine (InQ r _ _ HB.out).mono ?_; clear HB; rintro E w1 ⟨rfl, p1⟩; have HB := Aside0.mk p1; clear p1)); all_goals (go_meet; case rel => exact ⟨by simp [anyIn, g5, *], HB⟩)
                           case rest =>
                             as_aux_lemma =>
                              obtain ⟨rfl, HB⟩ := hcut
                              cases c5 : anyIn r g5 with
                              | true =>
                                have HV := Aside0.mk (show refC r = 1 by simp only [refC, refT, refG, c0, c1, c2, c3, c4, c5, Bool.false_eq_true, if_false, if_true]); go_wp2; go_ret; exact ⟨by rw [HV.out]; rfl, HB.out⟩
                              | false =>
                                have HV := Aside0.mk (show refC r = 7 by simp only [refC, refT, refG, c0, c1, c2, c3, c4, c5, Bool.false_eq_true, if_false]); go_wp2; go_ret; exact ⟨by rw [HV.out]; rfl, HB.out⟩
end Go.Proofs.YthffpkdadffinaaDoor.Vcc
namespace Go.Proofs.YthffpkdadffinaaDoor.Vcy
set_option linter.unusedVariables false
set_option linter.unusedSimpArgs false
open Go.RowKit YthffpkdadffinaaDoorW.PrintWords Vb Vin Vcc
def catB : List Int := refT.flatMap fun q => q.1.flatMap fun p => [p.1, p.2 + 1]
theorem lst_in : ∀ k ∈ [(1 : Int), 2, 3, 4, 5, 6], ∀ p ∈ lst k, p.f0 ∈ catB ∧ p.f1 + 1 ∈ catB := by decide +kernel
theorem any_of {r x : Int} (hx : AlikeB catB r x) (k : Int) (hk : k ∈ [(1 : Int), 2, 3, 4, 5, 6]) : (lst k).any (inR r) = (lst k).any (inR x) := by
  have h := lst_in k hk; revert h
  induction lst k with
  | nil => intro _; rfl
  | cons p t ih =>
    intro h; have h1 := h p (List.mem_cons_self ..); have a1 := hx _ h1.1; have a2 := hx _ h1.2; rw [List.any_cons, List.any_cons, ih (fun q hq => h q (List.mem_cons_of_mem _ hq))]; congr 1; unfold inR; congr 1
    · rw [decide_eq_decide]; omega
    · rw [decide_eq_decide]; omega
theorem cat_of {r x : Int} (hx : AlikeB catB r x) : cat r = cat x := by
  unfold cat; simp only [catF]; rw [any_of hx ((1 : Nat) : Int) (by decide), any_of hx ((1 + 1 : Nat) : Int) (by decide), any_of hx ((1 + 1 + 1 : Nat) : Int) (by decide), any_of hx ((1 + 1 + 1 + 1 : Nat) : Int) (by decide), any_of hx ((1 + 1 + 1 + 1 + 1 : Nat) : Int) (by decide), any_of hx ((1 + 1 + 1 + 1 + 1 + 1 : Nat) : Int) (by decide)]
theorem cat_at : ∀ x ∈ -1 :: catB, refC x = cat x := by decide +kernel
theorem refC_cat (r : Int) : refC r = cat r := by
  obtain ⟨x, hx1, hx⟩ := rep catB r (by decide +kernel); rw [cat_of hx, ← cat_at x hx1]; exact refG_of hx _ refT (by decide +kernel)
end Go.Proofs.YthffpkdadffinaaDoor.Vcy
namespace Go.Proofs.YthffpkdadffinaaDoor.X
set_option linter.unusedVariables false
set_option linter.unusedSimpArgs false
open Go.RowKit YthffpkdadffinaaDoorW.PrintWords
def tremaref02_Category.f (_ : Nat) (a0 : Int) : Option Int := some (Vb.cat a0)
theorem tremaref02_Category.mono : ∀ a0 k, LeO (tremaref02_Category.f k a0) (tremaref02_Category.f (k + 1) a0) := fun _ _ _ h => h
theorem tremaref02_Category.calls (k : Nat) (a0 : Int) (r : Int) (w : World) (h : tremaref02_Category.f k a0 = some r) : Calls Tryd.prog 65 #[.int .i32 a0] w fun e w' => e = .returned (.int .i64 r) ∧ Drawn0 w w' := by
  have h2 := Vcc.refCategory_walk w a0; rw [Vcy.refC_cat, Option.some.inj h] at h2; exact h2
end Go.Proofs.YthffpkdadffinaaDoor.X
namespace Go.Proofs.YthffpkdadffinaaDoor.Vrc
set_option linter.unusedVariables false
set_option linter.unusedSimpArgs false
open Go.RowKit YthffpkdadffinaaDoorW.PrintWords Ev0 X Va Vb Vc Vd Ve Vef Vf Vp Vr Vp0
theorem refcat (r : Int) : tremaref02_Category.f 30 r = some (cat r) := rfl
end Go.Proofs.YthffpkdadffinaaDoor.Vrc
namespace Go.Proofs.YthffpkdadffinaaDoor.Wk
set_option linter.unusedVariables false
set_option linter.unusedSimpArgs false
open Go.Proofs.YthffpkdadffinaaDoor.Ux (Bytes full)
open Go.Proofs.YthffpkdadffinaaDoor.Vb (cat)
open Go.Proofs.YthffpkdadffinaaDoor.Ot (rns)
open Go.Proofs.YthffpkdadffinaaDoor.En (enc)
open Go.Proofs.YthffpkdadffinaaDoor.Fr (K3 T3)
open Go.RowKit YthffpkdadffinaaDoorW.PrintWords Hp X Oa Vp0 Sga Sgp Sgy Wa Wb Wd Wg
theorem RefEncR (w : World) (A : Option Addr) (n c : Nat) (l : List Int) (hC : K3.C w A n l) (hn : n = l.length) (hc : n ≤ c) (hl : n ≤ 1000000000) :
    Calls Tryd.prog 76 #[.slice A n c] w fun e w' => ∃ A' m c', e = .returned (.slice A' m c') ∧ m = (enc l).length ∧ m ≤ c' ∧ KB.C w' A' m (enc l) ∧ Below w.heap.size w w' := by
  subst hn; refine (tremaref01_Encode.calls (l.length + 2) A c l (enc l) w hC hc (En.ref_pure l (by omega))).mono ?_; rintro e w' ⟨v, rfl, p1, p2⟩; obtain ⟨A', c', rfl, hc', hC'⟩ := Kd.R_reads p1; exact ⟨A', _, c', rfl, rfl, hc', hC', p2⟩
set_option maxRecDepth 100000 in
set_option maxHeartbeats 4000000 in
theorem KindP (w : World) (s : ByteArray) (hs : s.size ≤ 13000000) : Calls Tryd.prog 70 #[.string s] w fun e w' => e = .returned (.int .i64 (kindR s)) ∧ Below w.heap.size w w' := by
  obtain ⟨k, hk⟩ := Ev.rounds (Ot.runesEv (bytesOf s) (bytesOf_Bytes s) (by rw [bytesOf_length]; omega)); obtain ⟨r, hr⟩ : ∃ r, r = rns (bytesOf s) := ⟨_, rfl⟩; rw [← hr] at hk; (have kb := fun W => print_bytes (P := Tryd.prog) 9 23 5 Tryd.underlying9 Tryd.underlying23 Tryd.underlying5 s W); have HBR := Aside0.mk (fun W : World => bytes_reads W 5 s (by omega)); have HB2 := Aside0.mk (fun W : World => bytes_below (Below.refl W.heap.size W) (Nat.le_refl _) 5 s); have HK := Aside0.mk hk; have HL := Aside0.mk (bytesOf_length s); have HR := Aside0.mk hr; have HKR := Aside0.mk (show kindR s = if jointF s = 1 then 4 else if jointF s = 2 then 5 else kindU r by rw [hr]; rfl); have HMJ := Aside0.mk (mid_joint s); have HJN := Aside0.mk (joint_ne s); have HJ2 := Aside0.mk (joint_cases s); have HRC := Aside0.mk Vrc.refcat; clear hk hr; go_enter Tryd.func70, Tryd.ntmps70; go_upto_region 2 with (first | (go_at_call 36; go_must (refine (RunesR _ _ _ (grownCap w s.size 0 5) (bytesOf s) k (Hp.rdC (HBR.out w)) HL.out.symm (grownCap_ge _ _ _ _) HK.out).mono ?_; rintro E w2 ⟨v2, rfl, p1, p2⟩; obtain ⟨A2, c2, rfl, hc2, hC2⟩ := Kd.R_reads p1; have H2 := Aside0.mk ((HB2.out w).trans (p2.mono (HB2.out w).size)); have C2 := Aside0.mk hC2; clear p1 p2 hC2)))
  cases r with
  | nil =>
    go_wp2; go_ret; refine ⟨?_, H2.out⟩; (have hj : jointF s = 0 := Classical.byContradiction fun h => HJN.out h HR.out.symm); rw [HKR.out, hj]
    rfl
  | cons x t =>
    obtain ⟨n, hn⟩ : ∃ n, n = (x :: t).length := ⟨_, rfl⟩; (have hn1 : 1 ≤ n := by rw [hn]; simp); rw [← hn] at hc2 C2 ⊢; have HN := Aside0.mk hn; obtain ⟨ad, rfl, hcell⟩ := (rdint C2.out).2.2 (by omega); have z0 := hcell 0 (by omega); rw [show ad.add 0 = ad by cases ad; simp [Addr.add]] at z0; replace z0 : w2.cell? ad = some (.int .i32 x) := z0; have Z0 := Aside0.mk z0; have dn0 : decide ((n : Int) = 0) = false := decide_eq_false (by omega); have dn0' : decide (n = 0) = false := decide_eq_false (by omega); have dlt : 0 < n := hn1; clear hcell hn; go_upto_region 4 with (fail); go_cut [44] (fun v44 wq => ∃ J : Bool, v44 = .bool J ∧ Aside0 (decide (jointF s = 1) = J) ∧ Aside0 (Below w2.heap.size w2 wq))
    case first =>
      by_cases h1 : n = 1
      · subst h1; (obtain rfl : t = [] := by have := HN.out; cases t with | nil => rfl | cons y u => simp at this); obtain ⟨tx, htx⟩ : ∃ tx, tx = txt [x] := ⟨_, rfl⟩; obtain ⟨es, hes⟩ : ∃ es, es = strOfNums (enc [x]) := ⟨_, rfl⟩; have HTX := Aside0.mk htx; have HES := Aside0.mk hes; by_cases h3 : x = 39 ∨ x = 8217 ∨ x = 183
        · by_cases hts : tx = s
          · (have e1 : (tx.toList == s.toList) = true := by rw [hts]; exact beq_self_eq_true _); by_cases he : es = s
            · (have e2 : (es.toList == s.toList) = true := by rw [he]; exact beq_self_eq_true _); have HD := Aside0.mk (show decide (jointF s = 1) = true from decide_eq_true (HMJ.out.1 ⟨x, HR.out.symm, h3, by rw [← htx, hts], by rw [← hes, he]⟩)); clear htx hes hts he; rcases h3 with rfl | rfl | rfl
              · go_wp2_with (first | (go_at_call 34; go_must (refine (TextR _ _ s.size (grownCap w2 s.size 0 5) (bytesOf s) (Hp.rdC (HBR.out w2)) HL.out.symm (grownCap_ge _ _ _ _) (bytesOf_Bytes s) hs).mono ?_; rw [← HR.out, ← HTX.out]; rintro E w3 ⟨rfl, p1⟩; have H3 := Aside0.mk ((HB2.out w2).trans (p1.mono (HB2.out w2).size)); clear p1)) | (go_at_call 76; go_must (refine (RefEncR _ _ 1 c2 _ (Kd.C_below C2.out H3.out) rfl hc2 (by decide)).mono ?_; rintro E w4 ⟨A4, m4, c4, rfl, p0, p1, p2, p3⟩; have H4 := Aside0.mk (below_then H3.out H3.out.size p3); have hcv := Sx.reads_string (P := Tryd.prog) (c := c4) Tryd.underlying23 Tryd.underlying5 Tryd.underlying9 (rdint p2); rw [← HES.out] at hcv; clear p0 p1 p2 p3))); go_meet
                case rel => exact ⟨_, rfl, HD, H4⟩
              · go_wp2_with (first | (go_at_call 34; go_must (refine (TextR _ _ s.size (grownCap w2 s.size 0 5) (bytesOf s) (Hp.rdC (HBR.out w2)) HL.out.symm (grownCap_ge _ _ _ _) (bytesOf_Bytes s) hs).mono ?_; rw [← HR.out, ← HTX.out]; rintro E w3 ⟨rfl, p1⟩; have H3 := Aside0.mk ((HB2.out w2).trans (p1.mono (HB2.out w2).size)); clear p1)) | (go_at_call 76; go_must (refine (RefEncR _ _ 1 c2 _ (Kd.C_below C2.out H3.out) rfl hc2 (by decide)).mono ?_; rintro E w4 ⟨A4, m4, c4, rfl, p0, p1, p2, p3⟩; have H4 := Aside0.mk (below_then H3.out H3.out.size p3); have hcv := Sx.reads_string (P := Tryd.prog) (c := c4) Tryd.underlying23 Tryd.underlying5 Tryd.underlying9 (rdint p2); rw [← HES.out] at hcv; clear p0 p1 p2 p3))); go_meet
                case rel => exact ⟨_, rfl, HD, H4⟩
              · go_wp2_with (first | (go_at_call 34; go_must (refine (TextR _ _ s.size (grownCap w2 s.size 0 5) (bytesOf s) (Hp.rdC (HBR.out w2)) HL.out.symm (grownCap_ge _ _ _ _) (bytesOf_Bytes s) hs).mono ?_; rw [← HR.out, ← HTX.out]; rintro E w3 ⟨rfl, p1⟩; have H3 := Aside0.mk ((HB2.out w2).trans (p1.mono (HB2.out w2).size)); clear p1)) | (go_at_call 76; go_must (refine (RefEncR _ _ 1 c2 _ (Kd.C_below C2.out H3.out) rfl hc2 (by decide)).mono ?_; rintro E w4 ⟨A4, m4, c4, rfl, p0, p1, p2, p3⟩; have H4 := Aside0.mk (below_then H3.out H3.out.size p3); have hcv := Sx.reads_string (P := Tryd.prog) (c := c4) Tryd.underlying23 Tryd.underlying5 Tryd.underlying9 (rdint p2); rw [← HES.out] at hcv; clear p0 p1 p2 p3))); go_meet
                case rel => exact ⟨_, rfl, HD, H4⟩
            · have e2 : (es.toList == s.toList) = false := beq_eq_false_iff_ne.2 fun h => he ((Sgr.ba_list _ _).1 h)
              have HD := Aside0.mk (show decide (jointF s = 1) = false from decide_eq_false fun h => by
                obtain ⟨y, q1, -, -, q4⟩ := HMJ.out.2 h; rw [← HR.out] at q1; rw [← (List.cons.inj q1).1, ← hes] at q4
                exact he q4)
              clear htx hes hts he; rcases h3 with rfl | rfl | rfl
              · go_wp2_with (first | (go_at_call 34; go_must (refine (TextR _ _ s.size (grownCap w2 s.size 0 5) (bytesOf s) (Hp.rdC (HBR.out w2)) HL.out.symm (grownCap_ge _ _ _ _) (bytesOf_Bytes s) hs).mono ?_; rw [← HR.out, ← HTX.out]; rintro E w3 ⟨rfl, p1⟩; have H3 := Aside0.mk ((HB2.out w2).trans (p1.mono (HB2.out w2).size)); clear p1)) | (go_at_call 76; go_must (refine (RefEncR _ _ 1 c2 _ (Kd.C_below C2.out H3.out) rfl hc2 (by decide)).mono ?_; rintro E w4 ⟨A4, m4, c4, rfl, p0, p1, p2, p3⟩; have H4 := Aside0.mk (below_then H3.out H3.out.size p3); have hcv := Sx.reads_string (P := Tryd.prog) (c := c4) Tryd.underlying23 Tryd.underlying5 Tryd.underlying9 (rdint p2); rw [← HES.out] at hcv; clear p0 p1 p2 p3))); go_meet
                case rel => exact ⟨_, rfl, HD, H4⟩
              · go_wp2_with (first | (go_at_call 34; go_must (refine (TextR _ _ s.size (grownCap w2 s.size 0 5) (bytesOf s) (Hp.rdC (HBR.out w2)) HL.out.symm (grownCap_ge _ _ _ _) (bytesOf_Bytes s) hs).mono ?_; rw [← HR.out, ← HTX.out]; rintro E w3 ⟨rfl, p1⟩; have H3 := Aside0.mk ((HB2.out w2).trans (p1.mono (HB2.out w2).size)); clear p1)) | (go_at_call 76; go_must (refine (RefEncR _ _ 1 c2 _ (Kd.C_below C2.out H3.out) rfl hc2 (by decide)).mono ?_; rintro E w4 ⟨A4, m4, c4, rfl, p0, p1, p2, p3⟩; have H4 := Aside0.mk (below_then H3.out H3.out.size p3); have hcv := Sx.reads_string (P := Tryd.prog) (c := c4) Tryd.underlying23 Tryd.underlying5 Tryd.underlying9 (rdint p2); rw [← HES.out] at hcv; clear p0 p1 p2 p3))); go_meet
                case rel => exact ⟨_, rfl, HD, H4⟩
              · go_wp2_with (first | (go_at_call 34; go_must (refine (TextR _ _ s.size (grownCap w2 s.size 0 5) (bytesOf s) (Hp.rdC (HBR.out w2)) HL.out.symm (grownCap_ge _ _ _ _) (bytesOf_Bytes s) hs).mono ?_; rw [← HR.out, ← HTX.out]; rintro E w3 ⟨rfl, p1⟩; have H3 := Aside0.mk ((HB2.out w2).trans (p1.mono (HB2.out w2).size)); clear p1)) | (go_at_call 76; go_must (refine (RefEncR _ _ 1 c2 _ (Kd.C_below C2.out H3.out) rfl hc2 (by decide)).mono ?_; rintro E w4 ⟨A4, m4, c4, rfl, p0, p1, p2, p3⟩; have H4 := Aside0.mk (below_then H3.out H3.out.size p3); have hcv := Sx.reads_string (P := Tryd.prog) (c := c4) Tryd.underlying23 Tryd.underlying5 Tryd.underlying9 (rdint p2); rw [← HES.out] at hcv; clear p0 p1 p2 p3))); go_meet
                case rel => exact ⟨_, rfl, HD, H4⟩
          · have e1 : (tx.toList == s.toList) = false := beq_eq_false_iff_ne.2 fun h => hts ((Sgr.ba_list _ _).1 h)
            have HD := Aside0.mk (show decide (jointF s = 1) = false from decide_eq_false fun h => by
              obtain ⟨y, q1, -, q3, -⟩ := HMJ.out.2 h; rw [← HR.out] at q1; rw [← (List.cons.inj q1).1, ← htx] at q3
              exact hts q3)
            clear htx hes hts; rcases h3 with rfl | rfl | rfl
            · go_wp2_with (first | (go_at_call 34; go_must (refine (TextR _ _ s.size (grownCap w2 s.size 0 5) (bytesOf s) (Hp.rdC (HBR.out w2)) HL.out.symm (grownCap_ge _ _ _ _) (bytesOf_Bytes s) hs).mono ?_; rw [← HR.out, ← HTX.out]; rintro E w3 ⟨rfl, p1⟩; have H3 := Aside0.mk ((HB2.out w2).trans (p1.mono (HB2.out w2).size)); clear p1)) | (go_at_call 76; go_must (refine (RefEncR _ _ 1 c2 _ (Kd.C_below C2.out H3.out) rfl hc2 (by decide)).mono ?_; rintro E w4 ⟨A4, m4, c4, rfl, p0, p1, p2, p3⟩; have H4 := Aside0.mk (below_then H3.out H3.out.size p3); have hcv := Sx.reads_string (P := Tryd.prog) (c := c4) Tryd.underlying23 Tryd.underlying5 Tryd.underlying9 (rdint p2); rw [← HES.out] at hcv; clear p0 p1 p2 p3))); go_meet
              case rel => exact ⟨_, rfl, HD, H3⟩
            · go_wp2_with (first | (go_at_call 34; go_must (refine (TextR _ _ s.size (grownCap w2 s.size 0 5) (bytesOf s) (Hp.rdC (HBR.out w2)) HL.out.symm (grownCap_ge _ _ _ _) (bytesOf_Bytes s) hs).mono ?_; rw [← HR.out, ← HTX.out]; rintro E w3 ⟨rfl, p1⟩; have H3 := Aside0.mk ((HB2.out w2).trans (p1.mono (HB2.out w2).size)); clear p1)) | (go_at_call 76; go_must (refine (RefEncR _ _ 1 c2 _ (Kd.C_below C2.out H3.out) rfl hc2 (by decide)).mono ?_; rintro E w4 ⟨A4, m4, c4, rfl, p0, p1, p2, p3⟩; have H4 := Aside0.mk (below_then H3.out H3.out.size p3); have hcv := Sx.reads_string (P := Tryd.prog) (c := c4) Tryd.underlying23 Tryd.underlying5 Tryd.underlying9 (rdint p2); rw [← HES.out] at hcv; clear p0 p1 p2 p3))); go_meet
              case rel => exact ⟨_, rfl, HD, H3⟩
            · go_wp2_with (first | (go_at_call 34; go_must (refine (TextR _ _ s.size (grownCap w2 s.size 0 5) (bytesOf s) (Hp.rdC (HBR.out w2)) HL.out.symm (grownCap_ge _ _ _ _) (bytesOf_Bytes s) hs).mono ?_; rw [← HR.out, ← HTX.out]; rintro E w3 ⟨rfl, p1⟩; have H3 := Aside0.mk ((HB2.out w2).trans (p1.mono (HB2.out w2).size)); clear p1)) | (go_at_call 76; go_must (refine (RefEncR _ _ 1 c2 _ (Kd.C_below C2.out H3.out) rfl hc2 (by decide)).mono ?_; rintro E w4 ⟨A4, m4, c4, rfl, p0, p1, p2, p3⟩; have H4 := Aside0.mk (below_then H3.out H3.out.size p3); have hcv := Sx.reads_string (P := Tryd.prog) (c := c4) Tryd.underlying23 Tryd.underlying5 Tryd.underlying9 (rdint p2); rw [← HES.out] at hcv; clear p0 p1 p2 p3))); go_meet
              case rel => exact ⟨_, rfl, HD, H3⟩
        · (have d1 : decide (x = 39) = false := decide_eq_false fun h => h3 (.inl h)); (have d2 : decide (x = 8217) = false := decide_eq_false fun h => h3 (.inr (.inl h))); (have d3 : decide (x = 183) = false := decide_eq_false fun h => h3 (.inr (.inr h))); have d4 : (x == 39) = false := d1; have d5 : (x == 8217) = false := d2; have d6 : (x == 183) = false := d3
          have HD := Aside0.mk (show decide (jointF s = 1) = false from decide_eq_false fun h => by
            obtain ⟨y, q1, q2, -, -⟩ := HMJ.out.2 h; rw [← HR.out] at q1; rw [← (List.cons.inj q1).1] at q2
            exact h3 q2)
          clear htx hes h3; go_wp2; go_meet
          case rel => exact ⟨_, rfl, HD, ⟨Below.refl _ _⟩⟩
      · have d1 : decide ((n : Int) = 1) = false := decide_eq_false (by omega); have d1' : decide (n = 1) = false := decide_eq_false h1
        have HD := Aside0.mk (show decide (jointF s = 1) = false from decide_eq_false fun h => by
          obtain ⟨y, q1, -, -, -⟩ := HMJ.out.2 h; rw [← HR.out] at q1; rw [q1] at HN
          exact h1 HN.out)
        go_wp2; go_meet
        case rel => exact ⟨_, rfl, HD, ⟨Below.refl _ _⟩⟩
    case rest =>
      obtain ⟨J, rfl, HJ, HQ⟩ := hcut; have hcl := cell_later HQ.out z0; have HE := Aside0.mk (below_then H2.out H2.out.size HQ.out); clear z0
      cases J with
      | true =>
        have hj := of_decide_eq_true HJ.out; have HK4 := Aside0.mk (show kindR s = 4 by rw [HKR.out, if_pos hj]); clear hj; go_wp2; go_ret; exact ⟨by rw [HK4.out]; rfl, HE.out⟩
      | false =>
        have hj := of_decide_eq_false HJ.out; by_cases h46 : s.toList = [46]
        · have e1 : (s.toList == [46]) = true := beq_iff_eq.2 h46
          have HK5 := Aside0.mk (show kindR s = 5 by
            have : s = ⟨#[46]⟩ := (Sgr.ba_list _ _).1 (h46.trans t46.symm); rw [this]
            rfl)
          clear hj h46; go_wp2; go_ret; exact ⟨by rw [HK5.out]; rfl, HE.out⟩
        · have e1 : (s.toList == [46]) = false := beq_eq_false_iff_ne.2 h46; by_cases h44 : s.toList = [44]
          · have e2 : (s.toList == [44]) = true := beq_iff_eq.2 h44
            have HK5 := Aside0.mk (show kindR s = 5 by
              have : s = ⟨#[44]⟩ := (Sgr.ba_list _ _).1 (h44.trans t44.symm); rw [this]
              rfl)
            clear hj h46 h44; go_wp2; go_ret; exact ⟨by rw [HK5.out]; rfl, HE.out⟩
          · have e2 : (s.toList == [44]) = false := beq_eq_false_iff_ne.2 h44
            have hj2 : ¬ jointF s = 2 := by
              intro h; rcases HJ2.out with h0 | ⟨h0, -⟩ | ⟨-, h0 | h0⟩
              · omega
              · omega
              · exact h46 (by rw [h0]; exact t46)
              · exact h44 (by rw [h0]; exact t44)
            have HKU := Aside0.mk (show kindR s = kindU (x :: t) by rw [HKR.out, if_neg hj, if_neg hj2]); clear hj hj2 h46 h44; by_cases h95 : x = 95
            · have d95 : decide (x = 95) = true := decide_eq_true h95; have d95' : (x == 95) = true := d95; have HK3 := Aside0.mk (show kindU (x :: t) = 3 by show (if x = 95 then (3 : Int) else if cat x = 1 then 1 else if cat x = 3 then 2 else 0) = 3; rw [if_pos h95]); clear h95; go_wp2; go_ret; exact ⟨by rw [HKU.out, HK3.out]; rfl, HE.out⟩
            · have d95 : decide (x = 95) = false := decide_eq_false h95; have d95' : (x == 95) = false := d95; obtain ⟨q, hq⟩ : ∃ q, q = cat x := ⟨_, rfl⟩; have HQC := Aside0.mk hq; have HKQ := Aside0.mk (show kindU (x :: t) = if q = 1 then 1 else if q = 3 then 2 else 0 by show (if x = 95 then (3 : Int) else if cat x = 1 then 1 else if cat x = 3 then 2 else 0) = _; rw [if_neg h95, hq]); clear h95 hq; by_cases hq1 : q = 1
              · subst hq1; go_wp2_with (go_at_call 65; go_must (refine (tremaref02_Category.calls 30 x _ _ (HRC.out x)).mono ?_; rw [← HQC.out]; rintro E w5 ⟨rfl, p1⟩; have H5 := Aside0.mk (below_step HE.out p1.below); clear p1)); go_ret; exact ⟨by rw [HKU.out, HKQ.out]; rfl, H5.out⟩
              · by_cases hq3 : q = 3
                · subst hq3; go_wp2_with (go_at_call 65; go_must (refine (tremaref02_Category.calls 30 x _ _ (HRC.out x)).mono ?_; rw [← HQC.out]; rintro E w5 ⟨rfl, p1⟩; have H5 := Aside0.mk (below_step HE.out p1.below); clear p1)); go_ret; exact ⟨by rw [HKU.out, HKQ.out]; rfl, H5.out⟩
                · have dq1 : decide (q = 1) = false := decide_eq_false hq1; have dq3 : decide (q = 3) = false := decide_eq_false hq3; have dq1' : (q == 1) = false := dq1; have dq3' : (q == 3) = false := dq3; have HK0 := Aside0.mk (show kindR s = 0 by rw [HKU.out, HKQ.out, if_neg hq1, if_neg hq3]); clear hq1 hq3; go_wp2_with (go_at_call 65; go_must (refine (tremaref02_Category.calls 30 x _ _ (HRC.out x)).mono ?_; rw [← HQC.out]; rintro E w5 ⟨rfl, p1⟩; have H5 := Aside0.mk (below_step HE.out p1.below); clear p1)); go_ret; exact ⟨by rw [HK0.out]; rfl, H5.out⟩
end Go.Proofs.YthffpkdadffinaaDoor.Wk
namespace Go.Proofs.YthffpkdadffinaaDoor.X
set_option linter.unusedVariables false
set_option linter.unusedSimpArgs false
open Go.RowKit YthffpkdadffinaaDoorW.PrintWords
end Go.Proofs.YthffpkdadffinaaDoor.X
namespace Go.Proofs.YthffpkdadffinaaDoor.Wjq
set_option linter.unusedVariables false
set_option linter.unusedSimpArgs false
open Go.RowKit YthffpkdadffinaaDoorW.PrintWords Ev0 Hp Fm X Va Oa Vp0 Sga Sgb Sgd Wa Wb Wd Wg Wj
def curJ : Option Nat → Nat → List (Nat × Nat)
  | none, _ => []
  | some f, i => [(f, i)]
theorem runsJ_0 (fl : Nat → Bool) (i : Nat) (st : Option Nat) : runs fl 0 i st = curJ st i := by cases st <;> rfl
theorem runsJ_no {fl : Nat → Bool} {i : Nat} (h : fl i = false) (q : Nat) (st : Option Nat) : runs fl (q + 1) i st = curJ st i ++ runs fl q (i + 1) none := by
  cases st with
  | none =>
    (show (if fl i = true then runs fl q (i + 1) (some i) else runs fl q (i + 1) none) = _); rw [h, if_neg (by decide)]; rfl
  | some f =>
    (show (if fl i = true then runs fl q (i + 1) (some f) else (f, i) :: runs fl q (i + 1) none) = _); rw [h, if_neg (by decide)]; rfl
theorem runsJ_new {fl : Nat → Bool} {i : Nat} (h : fl i = true) (q : Nat) : runs fl (q + 1) i none = runs fl q (i + 1) (some i) := by
  (show (if fl i = true then runs fl q (i + 1) (some i) else runs fl q (i + 1) none) = _); rw [if_pos h]
theorem runsJ_on {fl : Nat → Bool} {i : Nat} (h : fl i = true) (q f : Nat) : runs fl (q + 1) i (some f) = runs fl q (i + 1) (some f) := by
  (show (if fl i = true then runs fl q (i + 1) (some f) else (f, i) :: runs fl q (i + 1) none) = _); rw [if_pos h]
abbrev txts (l : List SG) : List ByteArray := l.map (·.f0)
abbrev kndJ (l : List SG) : List Int := (txts l).map kindR
theorem kndJ_len (l : List SG) : (kndJ l).length = l.length := by rw [List.length_map, List.length_map]
theorem kndJ_rd {l : List SG} {i : Nat} (h : i < l.length) : (kndJ l).getD i 0 = kindR (T (txts l) i) := by
  rw [List.getD_eq_getElem?_getD, List.getElem?_eq_getElem (by rw [kndJ_len]; exact h), T_map l i h]; simp
theorem kindJ_5 (s : ByteArray) : 0 ≤ kindR s ∧ kindR s ≤ 5 := by
  have := kind_range s; unfold kindR; split
  · decide
  · split
    · decide
    · omega
def outJ (l : List SG) (done : List (Nat × Nat)) (st : Option Nat) (i : Nat) : List SW := (done ++ curJ st i).map (wordE l)
def JS (l : List SG) (i : Nat) (st : Option Nat) (done : List (Nat × Nat)) : Prop := done ++ runs (inW (txts l)) (l.length - i) i st = runsT (txts l) ∧ done.length ≤ i
theorem JS_start (l : List SG) : JS l 0 none [] := by
  unfold JS runsT; refine ⟨?_, Nat.le_refl _⟩; rw [List.nil_append, List.length_map]
  rfl
theorem JS_no {l : List SG} {i : Nat} {st : Option Nat} {done : List (Nat × Nat)} (h : JS l i st done) (hi : i < l.length) (hf : inW (txts l) i = false) : JS l (i + 1) none (done ++ curJ st i) := by
  obtain ⟨h1, h2⟩ := h; rw [show l.length - i = (l.length - (i + 1)) + 1 by omega, runsJ_no hf] at h1; refine ⟨by rw [List.append_assoc]; exact h1, ?_⟩; rw [List.length_append]; cases st <;> simp [curJ] <;> omega
theorem JS_new {l : List SG} {i : Nat} {done : List (Nat × Nat)} (h : JS l i none done) (hi : i < l.length) (hf : inW (txts l) i = true) : JS l (i + 1) (some i) done := by
  obtain ⟨h1, h2⟩ := h; rw [show l.length - i = (l.length - (i + 1)) + 1 by omega, runsJ_new hf] at h1; exact ⟨h1, by omega⟩
theorem JS_on {l : List SG} {i f : Nat} {done : List (Nat × Nat)} (h : JS l i (some f) done) (hi : i < l.length) (hf : inW (txts l) i = true) : JS l (i + 1) (some f) done := by
  obtain ⟨h1, h2⟩ := h; rw [show l.length - i = (l.length - (i + 1)) + 1 by omega, runsJ_on hf] at h1; exact ⟨h1, by omega⟩
theorem JS_end {l : List SG} {st : Option Nat} {done : List (Nat × Nat)} (h : JS l l.length st done) : outJ l done st l.length = (runsT (txts l)).map (wordE l) := by
  obtain ⟨h1, -⟩ := h; rw [Nat.sub_self, runsJ_0] at h1; unfold outJ; rw [h1]
theorem outJ_no (l : List SG) (done : List (Nat × Nat)) (st : Option Nat) (i : Nat) : outJ l (done ++ curJ st i) none (i + 1) = outJ l done st i := by unfold outJ; simp [curJ]
theorem outJ_len (l : List SG) (done : List (Nat × Nat)) (st : Option Nat) (i : Nat) : (outJ l done st i).length ≤ done.length + 1 := by
  unfold outJ; rw [List.length_map, List.length_append]; cases st <;> simp [curJ]
theorem outJ_new {l : List SG} {i : Nat} (done : List (Nat × Nat)) (hi : i < l.length) : outJ l done (some i) (i + 1) = outJ l done none i ++ [(⟨⟨#[]⟩, ⟨(i : Int), (i : Int) + 1, l[i].f1, l[i].f2⟩⟩ : SW)] := by
  unfold outJ; rw [List.map_append, List.map_append]; simp only [curJ, List.map_cons, List.map_nil, List.append_nil, wordE, Nat.add_sub_cancel, gAt_eq hi, Int.natCast_add]
  rfl
theorem outJ_on {l : List SG} {i f : Nat} (done : List (Nat × Nat)) (hi : i < l.length) : (outJ l done (some f) i).length = done.length + 1 ∧ ∃ a b c d : Int, (outJ l done (some f) i)[done.length]? = some (⟨⟨#[]⟩, ⟨a, b, c, d⟩⟩ : SW) ∧ outJ l done (some f) (i + 1) = (outJ l done (some f) i).set done.length (⟨⟨#[]⟩, ⟨a, (i : Int) + 1, c, l[i].f2⟩⟩ : SW) := by
  unfold outJ; rw [List.map_append, List.map_append]; refine ⟨by simp [curJ], (f : Int), (i : Int), (gAt l f).f1, (gAt l (i - 1)).f2, ?_, ?_⟩
  · rw [List.getElem?_append_right (by simp)]; simp [curJ, wordE]
  · rw [List.set_append_right _ _ (by simp)]; simp only [List.length_map, Nat.sub_self, curJ, List.map_cons, List.map_nil, List.set_cons_zero, wordE, Nat.add_sub_cancel, gAt_eq hi, Int.natCast_add]
    rfl
def cellsW (x : SW) : List Value := [.string x.f0, .int .i64 x.f1.f0, .int .i64 x.f1.f1, .int .i64 x.f1.f2, .int .i64 x.f1.f3]
theorem R_setW {W : World} {base g n cap : Nat} {ok : Nat → Prop} {xs : List SW} (h : kW.R TW W base ok (.slice (some ⟨g, 0, none⟩) n cap) xs) (i : Nat) (hi : i < n) (x : SW) :
    kW.R TW (W.setCells g (i * 5) (cellsW x)) base ok (.slice (some ⟨g, 0, none⟩) n cap) (xs.set i x) ∧ W.grownBy (W.setCells g (i * 5) (cellsW x)) (some g) := by
  obtain ⟨c, hcl, hM, hcc, -⟩ := Kd.R_elem h z60 (i : Int) (by omega) (by omega); have h5 : c.length = 5 := hcl
  have hM2 : kW.M W base (fun k => ok k ∧ k ≠ g) x (c.take 0 ++ cellsW x ++ c.drop (0 + (cellsW x).length)) := by
    have e : c.take 0 ++ cellsW x ++ c.drop (0 + (cellsW x).length) = cellsW x := by
      rw [List.take_zero, List.nil_append, List.drop_eq_nil_of_le (by rw [h5]; exact Nat.le_refl _), List.append_nil]
    rw [e]; exact k60_mkM _ _ _ _
  exact Kd.R_seg h (i : Int) (by omega) (by omega) hcl hcc (j := 0) (seg := cellsW x) (show 0 + (cellsW x).length ≤ 5 from Nat.le_refl _) hM2 (fun k hk => hk)
def outX (l : List SG) (P : List (Nat × Nat)) (j : Nat) : List SW := (P.take j).map (wordOf l) ++ (P.drop j).map (wordE l)
theorem outX_0 (l : List SG) (P : List (Nat × Nat)) : outX l P 0 = P.map (wordE l) := by unfold outX; simp
theorem outX_all (l : List SG) (P : List (Nat × Nat)) : outX l P P.length = P.map (wordOf l) := by unfold outX; simp
theorem outX_len (l : List SG) (P : List (Nat × Nat)) (j : Nat) : (outX l P j).length = P.length := by unfold outX; simp; omega
theorem outX_at (l : List SG) (P : List (Nat × Nat)) (j : Nat) (hj : j < P.length) : (outX l P j)[j]? = some (wordE l P[j]) := by
  unfold outX; rw [List.getElem?_append_right (by rw [List.length_map, List.length_take]; omega)]; simp [Nat.min_eq_left (Nat.le_of_lt hj), List.getElem?_eq_getElem hj]
theorem outX_succ (l : List SG) (P : List (Nat × Nat)) (j : Nat) (hj : j < P.length) : (outX l P j).set j (wordOf l P[j]) = outX l P (j + 1) := by
  unfold outX; rw [List.take_succ_eq_append_getElem hj, List.drop_eq_getElem_cons hj, List.map_append, List.map_cons, List.set_append_right _ _ (by rw [List.length_map, List.length_take]; omega)]; simp [Nat.min_eq_left (Nat.le_of_lt hj)]
theorem R_keyW {W : World} {base g n cap : Nat} {ok : Nat → Prop} {xs : List SW} (h : kW.R TW W base ok (.slice (some ⟨g, 0, none⟩) n cap) xs) (i : Nat) (hi : i < n) (x : SW) (hx : xs[i]? = some x) (ky : ByteArray) :
    kW.R TW (W.setCell ⟨g, i * 5, none⟩ (.string ky)) base ok (.slice (some ⟨g, 0, none⟩) n cap) (xs.set i ⟨ky, x.f1⟩) ∧ W.grownBy (W.setCell ⟨g, i * 5, none⟩ (.string ky)) (some g) := by
  obtain ⟨c, hcl, hM, hcc, -⟩ := Kd.R_elem h z60 (i : Int) (by omega) (by omega); rw [Int.toNat_natCast, List.getD_eq_getElem?_getD, hx, Option.getD_some] at hM; obtain rfl := k60_openM hM; exact Kd.R_seg h (i : Int) (by omega) (by omega) hcl hcc (j := 0) (seg := [.string ky]) (show 0 + 1 ≤ 5 by decide) (x' := ⟨ky, x.f1⟩) (okp := fun k => ok k ∧ k ≠ g) (k60_mkM _ _ _ ⟨ky, x.f1⟩) (fun k hk => hk)
theorem RKeyJ (w : World) (A : Option Addr) (n c : Nat) (b : List Int) (hC : KB.C w A n b) (hn : n = b.length) (hc : n ≤ c) (hB : Ux.Bytes b) (hl : n ≤ 16000000) (K : ByteArray) (hK : K = keyS b) :
    Calls Tryd.prog 33 #[.slice A n c] w fun e w' => e = .returned (.string K) ∧ Below w.heap.size w w' := by
  subst hn hK; obtain ⟨k, hk⟩ := Ev.rounds (refKeyS_ev b hB hl); exact tremaref13_Key.calls k A c b _ w hC hc hk
end Go.Proofs.YthffpkdadffinaaDoor.Wjq
