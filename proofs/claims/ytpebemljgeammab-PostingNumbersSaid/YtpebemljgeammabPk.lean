/-
  PostingNumbers.
-/
import Derived.Deep.RegionHeld3
import Derived.Test.YtpebemljgeammabPi
import Derived.Test.YtpebemljgeammabPPostingNumbersx2
namespace Go.Proofs.Ytpebemljgeammab.Pk
set_option linter.unusedVariables false
set_option linter.unusedSimpArgs false
open Go.RowKit Go.Proofs.YtpebemljgeammabW.PrintWords Go.Proofs.YtpebemljgeammabW.PrintMore Go.Proofs.Ytpebemljgeammab.Hp Go.Proofs.Ytpebemljgeammab.Fm Go.Proofs.Ytpebemljgeammab.Pn Go.Proofs.Ytpebemljgeammab.Pnr Go.Proofs.Ytpebemljgeammab.Pw Go.Proofs.Ytpebemljgeammab.Pf Go.Proofs.Ytpebemljgeammab.Ph

theorem w64 (n : Int) : IntKind.u64.wrap n = n % 18446744073709551616 := by simp [IntKind.wrap, IntKind.bits, IntKind.signed]
theorem num_l1 (N : Nat) : ∀ (k : Nat) (pre : List Int), N < 18446744073709551616 → (pre ++ num N).length ≤ 140737488355328 → (num N).length ≤ k → PPostingNumbers.tremaref14_Number.l1 k N pre = some (pre ++ num N) := by
  induction N using Nat.strongRecOn with
  | _ N ih =>
    intro k pre hN hl hk
    have hp := num_pos N
    obtain ⟨k, rfl⟩ : ∃ k', k = k' + 1 := ⟨k - 1, by omega⟩
    rw [List.length_append] at hl
    rcases Nat.lt_or_ge N 128 with h | h
    · rw [PPostingNumbers.tremaref14_Number.l1, if_neg (by omega), if_pos (by omega), num_small h, show (N : Int) % 256 = (N : Int) by omega]
    · rw [num_big h, List.length_cons] at hl hk
      rw [PPostingNumbers.tremaref14_Number.l1, if_pos (by omega), if_pos (by omega)]
      have e1 : IntKind.u64.wrap (Int.tdiv (N : Int) 128) = ((N / 128 : Nat) : Int) := by rw [w64, Int.tdiv_eq_ediv_of_nonneg (by omega)]; omega
      have e2 : IntKind.u64.wrap (Int.tmod (N : Int) 128 + 128) % 256 = ((N % 128 + 128 : Nat) : Int) := by rw [w64, Int.tmod_eq_emod_of_nonneg (by omega)]; omega
      rw [e1, e2, ih (N / 128) (by omega) k _ (by omega) (by simp; omega) (by omega), num_big h]
      simp
theorem num_l0 (b : List Int) (N : Nat) (hN : N < 18446744073709551616) (hl : (b ++ num N).length ≤ 140737488355328) : ∀ (m i k : Nat), b.length - i = m → i ≤ b.length → m + (num N).length + 1 ≤ k → PPostingNumbers.tremaref14_Number.l0 k b N (b.take i) i = some (b ++ num N) := by
  have hl2 := hl
  rw [List.length_append] at hl2
  have hp := num_pos N
  intro m
  induction m with
  | zero =>
    intro i k hm hi hk
    obtain ⟨k, rfl⟩ : ∃ k', k = k' + 1 := ⟨k - 1, by omega⟩
    rw [PPostingNumbers.tremaref14_Number.l0, if_neg (by omega), List.take_of_length_le (by omega)]
    exact num_l1 N k b hN hl (by omega)
  | succ m ih =>
    intro i k hm hi hk
    obtain ⟨k, rfl⟩ : ∃ k', k = k' + 1 := ⟨k - 1, by omega⟩
    have hlt : i < b.length := by omega
    rw [PPostingNumbers.tremaref14_Number.l0, if_pos (by omega), if_pos (by omega), if_pos (by rw [List.length_take]; omega), show wrap64 ((i : Int) + 1) = ((i + 1 : Nat) : Int) by unfold wrap64; omega]
    have e : b.take i ++ [rd b i] = b.take (i + 1) := by
      rw [List.take_succ_eq_append_getElem hlt]
      unfold rd
      simp [List.getElem?_eq_getElem hlt]
    rw [e]
    exact ih (i + 1) k (by omega) (by omega) (by omega)
theorem RefNumberP (w : World) (A : Option Addr) (n c : Nat) (b : List Int) (hC : KB.C w A n b) (hn : n = b.length) (hc : n ≤ c) (N : Nat) (hN : N < 18446744073709551616) (hl : n + (num N).length ≤ 140737488355328) :
    Calls Try.prog 17 #[.slice A n c, .int .u64 N] w fun e w' => ∃ v, e = .returned v ∧ Sep w [rowT KB 5 w.heap.size v (b ++ num N)] w' := by
  subst hn
  refine (PPostingNumbers.tremaref14_Number.calls (b.length + (num N).length + 1) A c b N (b ++ num N) w hC hc ?_).mono ?_
  · have := num_l0 b N hN (by simpa using hl) b.length 0 (b.length + (num N).length + 1) (by omega) (by omega) (by omega)
    rw [List.take_zero] at this
    exact this
  · rintro e w' ⟨v, rfl, h2, h3⟩
    exact ⟨v, rfl, (Sep.nil w).new (rowT KB 5 w.heap.size v (b ++ num N)) (ok := fun k => w.heap.size ≤ k) (Kd.R_mono (Kd.R_bound h2) (fun k hk => hk.2.1)) (fun _ h => h) h3⟩

set_option maxRecDepth 100000 in
set_option maxHeartbeats 2000000 in
theorem walk (w : World) (A : Option Addr) (b : List Int) (c : Nat) (hC : KB.C w A b.length b) (hc : b.length ≤ c) (hw : ∀ x, x ∈ b → (Lit.int .u8 x).wf = true) (hb : b.length * 1 ≤ 140737488351232) (n0 : Int) (hw0 : (Lit.int .u64 n0).wf = true) :
    Calls Try.prog 4 #[.slice A b.length c, .int .u64 n0] w fun e w' => e = .returned (.bool true) ∧ Below w.heap.size w w' := by
  obtain ⟨N, rfl, hN⟩ := wf_u64 hw0
  clear hw0
  have hB := wf_byt hw
  obtain ⟨n, hn⟩ : ∃ n, n = b.length := ⟨_, rfl⟩
  rw [← hn] at hC hc hb ⊢
  have hl : n ≤ 140737488355328 := by omega
  obtain ⟨q, hq⟩ : ∃ q, q = (num N).length := ⟨_, rfl⟩
  have hq10 : q ≤ 10 := by rw [hq]; exact num_len10 hN
  have hq0 : 1 ≤ q := by rw [hq]; exact num_pos N
  have HC := Aside0.mk hC
  have HB := Aside0.mk hB
  have HN := Aside0.mk hn
  have HQ := Aside0.mk hq
  have HLQ := Aside0.mk (show n + (num N).length ≤ 140737488355328 by rw [← hq]; omega)
  obtain ⟨x, hx⟩ : ∃ x, x = b ++ num N := ⟨_, rfl⟩
  obtain ⟨L, hL⟩ : ∃ L, L = n + q := ⟨_, rfl⟩
  have HX := Aside0.mk hx
  have HXL := Aside0.mk (show L = x.length by rw [hx, List.length_append, ← hn, ← hq, hL])
  obtain ⟨v, hv⟩ : ∃ v, v = (rd1 b).1 := ⟨_, rfl⟩
  obtain ⟨k, hk⟩ : ∃ k, k = (rd1 b).2 := ⟨_, rfl⟩
  have HR := Aside0.mk (show rd1 b = (v, k) by rw [hv, hk])
  have HR0 := Aside0.mk (show rd1 (b.drop 0) = (v, k) by rw [List.drop_zero, hv, hk])
  have HRN := Aside0.mk (show rd1 (num N) = (N, q) by have := rd1_num N hN []; rw [List.append_nil] at this; rw [this, hq])
  obtain ⟨s, hs⟩ : ∃ s, s = strOfNums x := ⟨_, rfl⟩
  have HST := Aside0.mk hs
  clear hC hB hn hw hb hq hx hv hk hs
  obtain ⟨i8, hi8, hz8⟩ := Option.map_eq_some_iff.1 info_8
  simp only [Prod.mk.injEq] at hz8
  have HCUT := Aside0.mk (show ∀ (A : Option Addr) (c : Nat) (W : World), (Instr.slice 22 (.slice A L c) (some (.int .i64 (n : Int))) none none).run Try.prog W = .ok (.slice (cutA A c n) q (c - n)) W by
    intro A c W
    have := cut_from (P := Try.prog) 22 5 .i64 Try.underlying22 hi8 1 hz8.2.1 A L c (n : Int) (by omega) (by omega) W
    rw [show L - (n : Int).toNat = q by omega] at this
    simpa [cutA] using this)
  have HCC := Aside0.mk (show ∀ (A : Option Addr) (c : Nat) (W : World), L ≤ c → KB.C W A L x → KB.C W (cutA A c n) q (num N) by
    intro A c W hc h
    have h1 := (rdint h).drop_ n (by omega) hc
    rw [HX.out, show L - n = q by omega] at h1
    unfold cutA
    rw [Nat.mul_one]
    have e : (b ++ num N).drop n = num N := by rw [HN.out, List.drop_left]
    rw [e] at h1
    exact rdC h1)
  have HSUB := Aside0.mk (show IntKind.i64.wrap ((L : Int) - (n : Int)) = (q : Int) by
    have e : ∀ z : Int, IntKind.i64.wrap z = (z + 9223372036854775808) % 18446744073709551616 - 9223372036854775808 := IntKind.wrap_i64
    rw [e]; omega)
  have hql : q ≤ 140737488355328 := by omega
  have HNL := Aside0.mk (show ∀ c2 : Nat, L ≤ c2 → q ≤ c2 - n by intro c2 h; omega)
  have HNB := Aside0.mk (num_byt N)
  clear hi8 hz8 hL
  go_enter Try.func4, Try.ntmps4
  go_wp2_with (first | (go_at_call 8; go_must (refine (Pg.fixed w).mono ?_; rintro e w1 ⟨rfl, p1⟩; have B1 := Aside0.mk p1; clear p1)) | (go_at_call 14; go_must (refine (NumberP w1 A n c b (Kd.C_below HC.out B1.out) HN.out hc N hN HLQ.out).mono ?_; rintro e w2 ⟨v2, rfl, p1⟩; rw [← HX.out] at p1; obtain ⟨A2, c2, rfl, hc2, hC2⟩ := p1.reads 0 rfl; rw [← HXL.out] at hc2 hC2 ⊢; have C2 := Aside0.mk hC2; have B2 := Aside0.mk (below_then B1.out B1.out.size p1.below); have hcut := HCUT.out A2 c2; have TK := Aside0.mk trivial; clear p1 hC2)) | (go_at_call 15; have t := TK.out; clear TK; refine (ReadP w2 (cutA A2 c2 n) q (c2 - n) (num N) (HCC.out A2 c2 w2 hc2 C2.out) HNB.out HQ.out (HNL.out c2 hc2) hql N q HRN.out).mono ?_; rintro e w3 ⟨rfl, p1⟩; have B3 := Aside0.mk (below_then B2.out B2.out.size p1.below); have C3 := Aside0.mk (Kd.C_below C2.out p1.below); clear p1 t hcut) | (go_at_call 15; go_must (refine (ReadP w3 A n c b (Kd.C_below HC.out B3.out) HB.out HN.out hc hl v k HR.out).mono ?_; rintro e w4 ⟨rfl, p1⟩; have B4 := Aside0.mk (below_then B3.out B3.out.size p1.below); have C4 := Aside0.mk (Kd.C_below C3.out p1.below); clear p1)) | (go_at_call 16; go_must (refine (RefReadP w4 A n c b (Kd.C_below HC.out B4.out) HB.out HN.out hc hl 0 (Nat.zero_le _) v k HR0.out).mono ?_; rintro e w5 ⟨rfl, p1⟩; have B5 := Aside0.mk (below_then B4.out B4.out.size p1.below); have C5 := Aside0.mk (Kd.C_below C4.out p1.below); clear p1)))
  have HCV := Aside0.mk (show ∀ (W : World), Below w5.heap.size w5 W → (convert 22 9 (.slice A2 L c2)).run Try.prog W = .ok (.string s) W from fun W hW => HST.out ▸ Sx.reads_string (P := Try.prog) (c := c2) Try.underlying22 Try.underlying5 Try.underlying9 (rdint (Kd.C_below C5.out hW)))
  refine wp_region_held_drew (S := fun W => Below w5.heap.size w5 W) (by kernel_rfl) (((Drawn0.refl w5).step 1).below) (fun hS => ?_)
  refine wpAnyH_take (i := 0) (oi := { dst := some 35, op := _, type := _, pos := _, after := _, guard := _ }) (v := .slice A2 L c2) rfl (by kernel_rfl) (by kernel_rfl) (by kernel_rfl) (fun _ _ _ h => h) (Or.inl ⟨by rfl, fun W hW => ?_⟩) hS ?_
  · (go_simp)
  try simp only [Act.put, List.setIfInBounds_toArray, List.set_cons_zero, List.set_cons_succ]
  refine wpAnyH_take (i := 1) (oi := { dst := some 36, op := _, type := _, pos := _, after := _, guard := _ }) (v := .string s) rfl (by kernel_rfl) (by kernel_rfl) (by kernel_rfl) (fun _ _ _ h => h) (Or.inl ⟨by rfl, fun W hW => ?_⟩) hS ?_
  · (have hcb := HCV.out W hW; go_simp)
  try simp only [Act.put, List.setIfInBounds_toArray, List.set_cons_zero, List.set_cons_succ]
  refine wpAnyH_take (i := 2) (oi := { dst := some 37, op := _, type := _, pos := _, after := _, guard := _ }) (v := .slice A n c) rfl (by kernel_rfl) (by kernel_rfl) (by kernel_rfl) (fun _ _ _ h => h) (Or.inl ⟨by rfl, fun W hW => ?_⟩) hS ?_
  · (go_simp)
  try simp only [Act.put, List.setIfInBounds_toArray, List.set_cons_zero, List.set_cons_succ]
  refine wpAnyH_take (i := 3) (oi := { dst := some 38, op := _, type := _, pos := _, after := _, guard := _ }) (v := .int .u64 (N : Int)) rfl (by kernel_rfl) (by kernel_rfl) (by kernel_rfl) (fun _ _ _ h => h) (Or.inl ⟨by rfl, fun W hW => ?_⟩) hS ?_
  · (go_simp)
  try simp only [Act.put, List.setIfInBounds_toArray, List.set_cons_zero, List.set_cons_succ]
  refine wpAnyH_ready (rs := [4]) (by kernel_rfl) (by simp) ?_
  refine AllReadyH.cons (o := { dst := some 39, op := _, type := _, pos := _, after := _, guard := _ }) rfl (fun K hK => ?_) AllReadyH.nil
  go_simp
  (go_at_call 17)
  refine (RefNumberP w5.drew A n c b (Kd.C_below HC.out (below_then B5.out B5.out.size ((Drawn0.refl w5).step 1).below)) HN.out hc N hN HLQ.out).mono ?_
  rintro e w9 ⟨v9, rfl, p1⟩
  rw [← HX.out] at p1
  obtain ⟨A9, c9, rfl, hc9, hC9⟩ := p1.reads 0 rfl
  rw [← HXL.out] at hc9 hC9 ⊢
  have B9 := below_then ((Drawn0.refl w5).step 1).below ((Drawn0.refl w5).step 1).below.size p1.below
  have hcv9 := Sx.reads_string (P := Try.prog) (c := c9) Try.underlying22 Try.underlying5 Try.underlying9 (rdint hC9)
  rw [← HST.out] at hcv9
  clear p1 hC9 hc9
  go_wp2_with fail
  refine hK.out _ _ B9 (fun hS2 => ?_)
  clear hK K hS
  have hS := hS2
  clear hS2
  try simp only [Act.put, List.setIfInBounds_toArray, List.set_cons_zero, List.set_cons_succ]
  refine wpAnyH_ready (rs := [5]) (by kernel_rfl) (by simp) ?_
  refine AllReadyH.cons (o := { dst := some 40, op := _, type := _, pos := _, after := _, guard := _ }) rfl (fun K hK => ?_) AllReadyH.nil
  go_simp
  refine hK.out _ _ hS (fun hS2 => ?_)
  clear hK K hS2 hcv9
  try simp only [Act.put, List.setIfInBounds_toArray, List.set_cons_zero, List.set_cons_succ]
  have hsub := HSUB.out
  refine wpAnyH_take (i := 6) (oi := { dst := some 41, op := _, type := _, pos := _, after := _, guard := _ }) (v := .bool true) rfl (by kernel_rfl) (by kernel_rfl) (by kernel_rfl) (fun _ _ _ h => h) (Or.inl ⟨by rfl, fun W hW => ?_⟩) hS ?_
  · (go_simp)
  try simp only [Act.put, List.setIfInBounds_toArray, List.set_cons_zero, List.set_cons_succ]
  refine wpAnyH_take (i := 7) (oi := { dst := some 42, op := _, type := _, pos := _, after := _, guard := _ }) (v := .bool true) rfl (by kernel_rfl) (by kernel_rfl) (by kernel_rfl) (fun _ _ _ h => h) (Or.inl ⟨by rfl, fun W hW => ?_⟩) hS ?_
  · (go_simp)
  try simp only [Act.put, List.setIfInBounds_toArray, List.set_cons_zero, List.set_cons_succ]
  refine wpAnyH_take (i := 8) (oi := { dst := some 43, op := _, type := _, pos := _, after := _, guard := _ }) (v := .int .u64 (N : Int)) rfl (by kernel_rfl) (by kernel_rfl) (by kernel_rfl) (fun _ _ _ h => h) (Or.inl ⟨by rfl, fun W hW => ?_⟩) hS ?_
  · (go_simp)
  try simp only [Act.put, List.setIfInBounds_toArray, List.set_cons_zero, List.set_cons_succ]
  refine wpAnyH_take (i := 9) (oi := { dst := some 44, op := _, type := _, pos := _, after := _, guard := _ }) (v := .int .u64 (N : Int)) rfl (by kernel_rfl) (by kernel_rfl) (by kernel_rfl) (fun _ _ _ h => h) (Or.inl ⟨by rfl, fun W hW => ?_⟩) hS ?_
  · (go_simp)
  try simp only [Act.put, List.setIfInBounds_toArray, List.set_cons_zero, List.set_cons_succ]
  refine wpAnyH_take (i := 10) (oi := { dst := some 45, op := _, type := _, pos := _, after := _, guard := _ }) (v := .bool true) rfl (by kernel_rfl) (by kernel_rfl) (by kernel_rfl) (fun _ _ _ h => h) (Or.inl ⟨by rfl, fun W hW => ?_⟩) hS ?_
  · (go_simp)
  try simp only [Act.put, List.setIfInBounds_toArray, List.set_cons_zero, List.set_cons_succ]
  refine wpAnyH_take (i := 11) (oi := { dst := some 46, op := _, type := _, pos := _, after := _, guard := _ }) (v := .bool true) rfl (by kernel_rfl) (by kernel_rfl) (by kernel_rfl) (fun _ _ _ h => h) (Or.inl ⟨by rfl, fun W hW => ?_⟩) hS ?_
  · (go_simp)
  try simp only [Act.put, List.setIfInBounds_toArray, List.set_cons_zero, List.set_cons_succ]
  refine wpAnyH_take (i := 12) (oi := { dst := some 47, op := _, type := _, pos := _, after := _, guard := _ }) (v := .bool true) rfl (by kernel_rfl) (by kernel_rfl) (by kernel_rfl) (fun _ _ _ h => h) (Or.inl ⟨by rfl, fun W hW => ?_⟩) hS ?_
  · (go_simp)
  try simp only [Act.put, List.setIfInBounds_toArray, List.set_cons_zero, List.set_cons_succ]
  refine wpAnyH_take (i := 13) (oi := { dst := some 48, op := _, type := _, pos := _, after := _, guard := _ }) (v := .int .i64 (q : Int)) rfl (by kernel_rfl) (by kernel_rfl) (by kernel_rfl) (fun _ _ _ h => h) (Or.inl ⟨by rfl, fun W hW => ?_⟩) hS ?_
  · (go_simp)
  try simp only [Act.put, List.setIfInBounds_toArray, List.set_cons_zero, List.set_cons_succ]
  refine wpAnyH_take (i := 14) (oi := { dst := some 49, op := _, type := _, pos := _, after := _, guard := _ }) (v := .slice A2 L c2) rfl (by kernel_rfl) (by kernel_rfl) (by kernel_rfl) (fun _ _ _ h => h) (Or.inl ⟨by rfl, fun W hW => ?_⟩) hS ?_
  · (go_simp)
  try simp only [Act.put, List.setIfInBounds_toArray, List.set_cons_zero, List.set_cons_succ]
  refine wpAnyH_take (i := 15) (oi := { dst := some 50, op := _, type := _, pos := _, after := _, guard := _ }) (v := .int .i64 (L : Int)) rfl (by kernel_rfl) (by kernel_rfl) (by kernel_rfl) (fun _ _ _ h => h) (Or.inl ⟨by rfl, fun W hW => ?_⟩) hS ?_
  · (go_simp)
  try simp only [Act.put, List.setIfInBounds_toArray, List.set_cons_zero, List.set_cons_succ]
  refine wpAnyH_take (i := 16) (oi := { dst := some 51, op := _, type := _, pos := _, after := _, guard := _ }) (v := .slice A n c) rfl (by kernel_rfl) (by kernel_rfl) (by kernel_rfl) (fun _ _ _ h => h) (Or.inl ⟨by rfl, fun W hW => ?_⟩) hS ?_
  · (go_simp)
  try simp only [Act.put, List.setIfInBounds_toArray, List.set_cons_zero, List.set_cons_succ]
  refine wpAnyH_take (i := 17) (oi := { dst := some 52, op := _, type := _, pos := _, after := _, guard := _ }) (v := .int .i64 (n : Int)) rfl (by kernel_rfl) (by kernel_rfl) (by kernel_rfl) (fun _ _ _ h => h) (Or.inl ⟨by rfl, fun W hW => ?_⟩) hS ?_
  · (go_simp)
  try simp only [Act.put, List.setIfInBounds_toArray, List.set_cons_zero, List.set_cons_succ]
  refine wpAnyH_take (i := 18) (oi := { dst := some 53, op := _, type := _, pos := _, after := _, guard := _ }) (v := .int .i64 (q : Int)) rfl (by kernel_rfl) (by kernel_rfl) (by kernel_rfl) (fun _ _ _ h => h) (Or.inl ⟨by rfl, fun W hW => ?_⟩) hS ?_
  · (go_simp)
  try simp only [Act.put, List.setIfInBounds_toArray, List.set_cons_zero, List.set_cons_succ]
  refine wpAnyH_take (i := 19) (oi := { dst := some 54, op := _, type := _, pos := _, after := _, guard := _ }) (v := .bool true) rfl (by kernel_rfl) (by kernel_rfl) (by kernel_rfl) (fun _ _ _ h => h) (Or.inl ⟨by rfl, fun W hW => ?_⟩) hS ?_
  · (go_simp)
  try simp only [Act.put, List.setIfInBounds_toArray, List.set_cons_zero, List.set_cons_succ]
  refine wpAnyH_take (i := 20) (oi := { dst := some 55, op := _, type := _, pos := _, after := _, guard := _ }) (v := .bool true) rfl (by kernel_rfl) (by kernel_rfl) (by kernel_rfl) (fun _ _ _ h => h) (Or.inl ⟨by rfl, fun W hW => ?_⟩) hS ?_
  · (go_simp)
  try simp only [Act.put, List.setIfInBounds_toArray, List.set_cons_zero, List.set_cons_succ]
  refine wpAnyH_take (i := 21) (oi := { dst := some 56, op := _, type := _, pos := _, after := _, guard := _ }) (v := .bool true) rfl (by kernel_rfl) (by kernel_rfl) (by kernel_rfl) (fun _ _ _ h => h) (Or.inl ⟨by rfl, fun W hW => ?_⟩) hS ?_
  · (go_simp)
  try simp only [Act.put, List.setIfInBounds_toArray, List.set_cons_zero, List.set_cons_succ]
  refine wpAnyH_take (i := 22) (oi := { dst := some 57, op := _, type := _, pos := _, after := _, guard := _ }) (v := .int .u64 (v : Int)) rfl (by kernel_rfl) (by kernel_rfl) (by kernel_rfl) (fun _ _ _ h => h) (Or.inl ⟨by rfl, fun W hW => ?_⟩) hS ?_
  · (go_simp)
  try simp only [Act.put, List.setIfInBounds_toArray, List.set_cons_zero, List.set_cons_succ]
  refine wpAnyH_take (i := 23) (oi := { dst := some 58, op := _, type := _, pos := _, after := _, guard := _ }) (v := .int .u64 (v : Int)) rfl (by kernel_rfl) (by kernel_rfl) (by kernel_rfl) (fun _ _ _ h => h) (Or.inl ⟨by rfl, fun W hW => ?_⟩) hS ?_
  · (go_simp)
  try simp only [Act.put, List.setIfInBounds_toArray, List.set_cons_zero, List.set_cons_succ]
  refine wpAnyH_take (i := 24) (oi := { dst := some 59, op := _, type := _, pos := _, after := _, guard := _ }) (v := .bool true) rfl (by kernel_rfl) (by kernel_rfl) (by kernel_rfl) (fun _ _ _ h => h) (Or.inl ⟨by rfl, fun W hW => ?_⟩) hS ?_
  · (go_simp)
  try simp only [Act.put, List.setIfInBounds_toArray, List.set_cons_zero, List.set_cons_succ]
  refine wpAnyH_take (i := 25) (oi := { dst := some 60, op := _, type := _, pos := _, after := _, guard := _ }) (v := .bool true) rfl (by kernel_rfl) (by kernel_rfl) (by kernel_rfl) (fun _ _ _ h => h) (Or.inl ⟨by rfl, fun W hW => ?_⟩) hS ?_
  · (go_simp)
  try simp only [Act.put, List.setIfInBounds_toArray, List.set_cons_zero, List.set_cons_succ]
  refine wpAnyH_take (i := 26) (oi := { dst := some 61, op := _, type := _, pos := _, after := _, guard := _ }) (v := .bool true) rfl (by kernel_rfl) (by kernel_rfl) (by kernel_rfl) (fun _ _ _ h => h) (Or.inl ⟨by rfl, fun W hW => ?_⟩) hS ?_
  · (go_simp)
  try simp only [Act.put, List.setIfInBounds_toArray, List.set_cons_zero, List.set_cons_succ]
  refine wpAnyH_take (i := 27) (oi := { dst := some 62, op := _, type := _, pos := _, after := _, guard := _ }) (v := .int .i64 (k : Int)) rfl (by kernel_rfl) (by kernel_rfl) (by kernel_rfl) (fun _ _ _ h => h) (Or.inl ⟨by rfl, fun W hW => ?_⟩) hS ?_
  · (go_simp)
  try simp only [Act.put, List.setIfInBounds_toArray, List.set_cons_zero, List.set_cons_succ]
  refine wpAnyH_take (i := 28) (oi := { dst := some 63, op := _, type := _, pos := _, after := _, guard := _ }) (v := .int .i64 (k : Int)) rfl (by kernel_rfl) (by kernel_rfl) (by kernel_rfl) (fun _ _ _ h => h) (Or.inl ⟨by rfl, fun W hW => ?_⟩) hS ?_
  · (go_simp)
  try simp only [Act.put, List.setIfInBounds_toArray, List.set_cons_zero, List.set_cons_succ]
  refine wpAnyH_take (i := 29) (oi := { dst := some 64, op := _, type := _, pos := _, after := _, guard := _ }) (v := .bool true) rfl (by kernel_rfl) (by kernel_rfl) (by kernel_rfl) (fun _ _ _ h => h) (Or.inl ⟨by rfl, fun W hW => ?_⟩) hS ?_
  · (go_simp)
  try simp only [Act.put, List.setIfInBounds_toArray, List.set_cons_zero, List.set_cons_succ]
  refine wpAnyH_take (i := 30) (oi := { dst := some 65, op := _, type := _, pos := _, after := _, guard := _ }) (v := .bool true) rfl (by kernel_rfl) (by kernel_rfl) (by kernel_rfl) (fun _ _ _ h => h) (Or.inl ⟨by rfl, fun W hW => ?_⟩) hS ?_
  · (go_simp)
  try simp only [Act.put, List.setIfInBounds_toArray, List.set_cons_zero, List.set_cons_succ]
  refine wpAnyH_take (i := 31) (oi := { dst := some 4, op := _, type := _, pos := _, after := _, guard := _ }) (v := .bool true) rfl (by kernel_rfl) (by kernel_rfl) (by kernel_rfl) (fun _ _ _ h => h) (Or.inl ⟨by rfl, fun W hW => ?_⟩) hS ?_
  · (go_simp)
  try simp only [Act.put, List.setIfInBounds_toArray, List.set_cons_zero, List.set_cons_succ]
  refine wpAnyH_done (by kernel_rfl) ?_ _
  go_wp2
  go_ret
  exact ⟨rfl, below_then B5.out B5.out.size B9⟩
end Go.Proofs.Ytpebemljgeammab.Pk
