/-
  PostingUnlike.
-/
import Derived.Deep.RegionHeld3
import Derived.Test.YtpebemljgeammabPi
import Derived.Test.YtpebemljgeammabPq
namespace Go.Proofs.Ytpebemljgeammab.Pu
set_option linter.unusedVariables false
set_option linter.unusedSimpArgs false
open Go.RowKit Go.Proofs.YtpebemljgeammabW.PrintWords Go.Proofs.YtpebemljgeammabW.PrintMore Go.Proofs.Ytpebemljgeammab.Hp Go.Proofs.Ytpebemljgeammab.Fm Go.Proofs.Ytpebemljgeammab.Pn Go.Proofs.Ytpebemljgeammab.Pm Go.Proofs.Ytpebemljgeammab.Pw Go.Proofs.Ytpebemljgeammab.Pe Go.Proofs.Ytpebemljgeammab.Pd Go.Proofs.Ytpebemljgeammab.Pf Go.Proofs.Ytpebemljgeammab.Pq Go.Proofs.Ytpebemljgeammab.PPostingDecodes
attribute [local go_sem] min2_int min_two

theorem str_inj {a b : List Int} (ha : Byt a) (hb : Byt b) (h : strOfNums a = strOfNums b) : a = b := by
  have h1 : a.map (fun n => UInt8.ofNat n.toNat) = b.map (fun n => UInt8.ofNat n.toNat) := by rw [← strOfNums_data, ← strOfNums_data, h]
  clear h
  induction a generalizing b with
  | nil => cases b with
    | nil => rfl
    | cons y b => simp at h1
  | cons x a ih =>
    cases b with
    | nil => simp at h1
    | cons y b =>
      simp only [List.map_cons] at h1
      injection h1 with h2 h3
      have hx := ha x List.mem_cons_self
      have hy := hb y List.mem_cons_self
      have h4 := congrArg UInt8.toNat h2
      simp only [UInt8.toNat_ofNat'] at h4
      have : x = y := by omega
      rw [this, ih (fun z hz => ha z (List.mem_cons_of_mem _ hz)) (fun z hz => hb z (List.mem_cons_of_mem _ hz)) h3]
theorem str_dec {a b : List Int} (ha : Byt a) (hb : Byt b) : ((strOfNums a).toList == (strOfNums b).toList) = decide (a = b) := by
  rw [Bool.eq_iff_iff]
  simp only [beq_iff_eq, decide_eq_true_eq]
  constructor
  · intro h
    rw [ByteArray.toList_eq, ByteArray.toList_eq] at h
    exact str_inj ha hb (ByteArray.ext (Array.ext' h))
  · intro h; rw [h]
/-- No list's bytes are the beginning of another's. -/
theorem enc_prefix {a b : List S42} (ha : may a = true) (hb : may b = true) (hla : a.length ≤ 2147483647) (hlb : b.length ≤ 2147483647) {r : List Int} (h : encL a ++ r = encL b) : a = b := by
  have h1 := nx_of_num a.length hla (encF (-1) a ++ r)
  have h2 := nx_of_num b.length hlb (encF (-1) b ++ [])
  rw [← List.append_assoc] at h1
  rw [List.append_nil] at h2
  have e1 : num a.length ++ encF (-1) a ++ r = num b.length ++ encF (-1) b := h
  rw [e1, h2] at h1
  simp only [Option.some.injEq, Prod.mk.injEq] at h1
  obtain ⟨e2, e3⟩ := h1
  have g1 := pL_of_enc a (-1) r (by omega) ha
  have g2 := pL_of_enc b (-1) [] (by omega) hb
  rw [List.append_nil, e3, e2, g1] at g2
  simp only [Option.some.injEq, Prod.mk.injEq] at g2
  exact g2.1
theorem enc_min {a b : List S42} (ha : may a = true) (hb : may b = true) (hla : a.length ≤ 2147483647) (hlb : b.length ≤ 2147483647) (m : Nat) (hm : m = if (encL b).length < (encL a).length then (encL b).length else (encL a).length) : ((encL a).take m = (encL b).take m) ↔ a = b := by
  constructor
  · intro h
    split at hm
    · rw [hm, List.take_length] at h
      exact (enc_prefix hb ha hlb hla (r := (encL a).drop (encL b).length) (by have e := List.take_append_drop (encL b).length (encL a); rw [h] at e; exact e)).symm
    · rw [hm, List.take_length] at h
      exact enc_prefix ha hb hla hlb (r := (encL b).drop (encL a).length) (by have e := List.take_append_drop (encL a).length (encL b); rw [← h] at e; exact e)
  · intro h; rw [h]

set_option maxRecDepth 100000 in
set_option maxHeartbeats 4000000 in
theorem main (w : World) (A : Option Addr) (n : Nat) (la : List S42) (c : Nat) (hC : k42.C w A n la) (hn : n = la.length) (hc : n ≤ c) (hs : sz la ≤ 4194304)
    (A2 : Option Addr) (n2 : Nat) (lb : List S42) (c2 : Nat) (hC2 : k42.C w A2 n2 lb) (hn2 : n2 = lb.length) (hc2 : n2 ≤ c2) (hs2 : sz lb ≤ 4194304) :
    Calls Try.prog 6 #[.slice A n c, .slice A2 n2 c2] w fun e w' => e = .returned (.bool true) ∧ Below w.heap.size w w' := by
  have h4a := len_sz la
  have h4b := len_sz lb
  have HC := Aside0.mk hC
  have HC2 := Aside0.mk hC2
  have HN := Aside0.mk hn
  have HN2 := Aside0.mk hn2
  cases hma : may la with
  | false =>
    have HM := Aside0.mk hma
    obtain ⟨mb, hmb⟩ : ∃ mb, mb = may lb := ⟨_, rfl⟩
    have HMB := Aside0.mk hmb
    clear hC hC2 hn hn2 hma hs h4a h4b
    cases mb with
    | false =>
      clear hs2 hmb
      go_enter Try.func6, Try.ntmps6
      have TK := Aside0.mk trivial
      go_wp2_with (first | (go_at_call 8; go_must (refine (Pg.fixed w).mono ?_; rintro e w1 ⟨rfl, p1⟩; have B1 := Aside0.mk p1; clear p1)) | (go_at_call 12; have t := TK.out; clear TK; refine (EncNo w1 A n c la (Kd.C_below HC.out B1.out) HN.out hc HM.out).mono ?_; rintro e w2 ⟨rfl, p1⟩; have B2 := Aside0.mk (below_then B1.out B1.out.size p1); clear p1 t) | (go_at_call 12; go_must (refine (EncNo w2 A2 n2 c2 lb (Kd.C_below HC2.out B2.out) HN2.out hc2 HMB.out.symm).mono ?_; rintro e w3 ⟨rfl, p1⟩; have B3 := Aside0.mk (below_then B2.out B2.out.size p1); clear p1)))
      go_ret
      exact ⟨rfl, B3.out⟩
    | true =>
      have HL := Aside0.mk (enc_small lb hs2 hmb.symm)
      clear hs2 hmb
      go_enter Try.func6, Try.ntmps6
      have TK := Aside0.mk trivial
      go_wp2_with (first | (go_at_call 8; go_must (refine (Pg.fixed w).mono ?_; rintro e w1 ⟨rfl, p1⟩; have B1 := Aside0.mk p1; clear p1)) | (go_at_call 12; have t := TK.out; clear TK; refine (EncNo w1 A n c la (Kd.C_below HC.out B1.out) HN.out hc HM.out).mono ?_; rintro e w2 ⟨rfl, p1⟩; have B2 := Aside0.mk (below_then B1.out B1.out.size p1); clear p1 t) | (go_at_call 12; go_must (refine (EncOk w2 A2 n2 c2 lb (Kd.C_below HC2.out B2.out) HN2.out hc2 HMB.out.symm HL.out).mono ?_; rintro e w3 ⟨v3, rfl, p1⟩; obtain ⟨A3, c3, rfl, -, -⟩ := p1.reads 0 rfl; have B3 := Aside0.mk (below_then B2.out B2.out.size p1.below); clear p1)))
      go_ret
      exact ⟨rfl, B3.out⟩
  | true =>
    have HM := Aside0.mk hma
    have HLA := Aside0.mk (enc_small la hs hma)
    cases hmb : may lb with
    | false =>
      have HMB := Aside0.mk hmb
      clear hC hC2 hn hn2 hma hs h4a h4b hmb hs2
      go_enter Try.func6, Try.ntmps6
      have TK := Aside0.mk trivial
      go_wp2_with (first | (go_at_call 8; go_must (refine (Pg.fixed w).mono ?_; rintro e w1 ⟨rfl, p1⟩; have B1 := Aside0.mk p1; clear p1)) | (go_at_call 12; have t := TK.out; clear TK; refine (EncOk w1 A n c la (Kd.C_below HC.out B1.out) HN.out hc HM.out HLA.out).mono ?_; rintro e w2 ⟨v2, rfl, p1⟩; obtain ⟨A3, c3, rfl, -, -⟩ := p1.reads 0 rfl; have B2 := Aside0.mk (below_then B1.out B1.out.size p1.below); clear p1 t) | (go_at_call 12; go_must (refine (EncNo w2 A2 n2 c2 lb (Kd.C_below HC2.out B2.out) HN2.out hc2 HMB.out).mono ?_; rintro e w3 ⟨rfl, p1⟩; have B3 := Aside0.mk (below_then B2.out B2.out.size p1); clear p1)))
      go_ret
      exact ⟨rfl, B3.out⟩
    | true =>
      have HMB := Aside0.mk hmb
      have HLB := Aside0.mk (enc_small lb hs2 hmb)
      obtain ⟨x, hx⟩ : ∃ x, x = encL la := ⟨_, rfl⟩
      obtain ⟨y, hy⟩ : ∃ y, y = encL lb := ⟨_, rfl⟩
      obtain ⟨qx, hqx⟩ : ∃ q, q = x.length := ⟨_, rfl⟩
      obtain ⟨qy, hqy⟩ : ∃ q, q = y.length := ⟨_, rfl⟩
      obtain ⟨m, hm⟩ : ∃ m, m = if qy < qx then qy else qx := ⟨_, rfl⟩
      have hmx : m ≤ qx := by rw [hm]; split <;> omega
      have hmy : m ≤ qy := by rw [hm]; split <;> omega
      have hqx5 : qx ≤ 140737488355328 := by rw [hqx, hx]; exact HLA.out
      have hqy5 : qy ≤ 140737488355328 := by rw [hqy, hy]; exact HLB.out
      have hmin : (if (qy : Int) < (qx : Int) then (qy : Int) else (qx : Int)) = (m : Int) := by rw [hm]; split <;> split <;> omega
      have hmn := enc_min hma hmb (by omega) (by omega) m (by rw [← hx, ← hy, ← hqx, ← hqy]; exact hm)
      rw [← hx, ← hy] at hmn
      obtain ⟨s1, hs1⟩ : ∃ s, s = strOfNums (x.take m) := ⟨_, rfl⟩
      obtain ⟨s2, hs2'⟩ : ∃ s, s = strOfNums (y.take m) := ⟨_, rfl⟩
      obtain ⟨sm, hsm⟩ : ∃ sm, sm = sameL la lb := ⟨_, rfl⟩
      have hstr : (s1.toList == s2.toList) = sm := by
        rw [hs1, hs2', str_dec (fun z hz => by rw [hx] at hz; exact encL_byt la z (List.mem_of_mem_take hz)) (fun z hz => by rw [hy] at hz; exact encL_byt lb z (List.mem_of_mem_take hz)), hsm, Bool.eq_iff_iff, decide_eq_true_eq, sameL_iff]
        exact hmn
      have hlen : sm = true → qx = qy := fun h => by rw [hsm] at h; rw [hqx, hqy, hx, hy, (sameL_iff la lb).1 h]
      have HX := Aside0.mk hx
      have HY := Aside0.mk hy
      have HQX := Aside0.mk hqx
      have HQY := Aside0.mk hqy
      have HS1 := Aside0.mk hs1
      have HS2 := Aside0.mk hs2'
      have HSAME := Aside0.mk hsm.symm
      have HLEN := Aside0.mk hlen
      have HSTR := Aside0.mk hstr
      clear hC hC2 hn hn2 hma hs h4a h4b hmb hs2 hx hy hqx hqy hmn hs1 hs2' hsm hstr hlen
      obtain ⟨i8, hi8, hz8⟩ := Option.map_eq_some_iff.1 info_8
      simp only [Prod.mk.injEq] at hz8
      have HCUT := Aside0.mk (show ∀ (A : Option Addr) (q c : Nat) (W : World), m ≤ q → q ≤ c → (Instr.slice 22 (.slice A q c) none (some (.int .i64 (m : Int))) none).run Try.prog W = .ok (.slice A m c) W by
        intro A q c W h1 h2
        have := cut_to (P := Try.prog) 22 5 .i64 Try.underlying22 hi8 A q c (m : Int) (by omega) (by omega) h2 W
        simpa using this)
      clear hi8 hz8
      by_cases hlt : qy < qx
      · obtain rfl : m = qy := by rw [hm, if_pos hlt]
        clear hm hmin
        cases sm with
        | true => exact absurd (HLEN.out rfl) (by omega)
        | false =>
          go_enter Try.func6, Try.ntmps6
          have TK := Aside0.mk trivial
          go_wp2_with (first | (go_at_call 8; go_must (refine (Pg.fixed w).mono ?_; rintro e w1 ⟨rfl, p1⟩; have B1 := Aside0.mk p1; clear p1)) | (go_at_call 12; have t := TK.out; clear TK; refine (EncOk w1 A n c la (Kd.C_below HC.out B1.out) HN.out hc HM.out HLA.out).mono ?_; rintro e w2 ⟨v2, rfl, p1⟩; rw [← HX.out] at p1; obtain ⟨A3, c3, rfl, hc3, hC3⟩ := p1.reads 0 rfl; rw [← HQX.out] at hc3 hC3 ⊢; have C3 := Aside0.mk hC3; have B2 := Aside0.mk (below_then B1.out B1.out.size p1.below); clear p1 t hC3) | (go_at_call 12; go_must (refine (EncOk w2 A2 n2 c2 lb (Kd.C_below HC2.out B2.out) HN2.out hc2 HMB.out HLB.out).mono ?_; rintro e w3 ⟨v3, rfl, p1⟩; rw [← HY.out] at p1; obtain ⟨A4, c4, rfl, hc4, hC4⟩ := p1.reads 0 rfl; rw [← HQY.out] at hc4 hC4 ⊢; have C4 := Aside0.mk hC4; have D3 := Aside0.mk (Kd.C_below C3.out p1.below); have B3 := Aside0.mk (below_then B2.out B2.out.size p1.below); clear p1 hC4)))
          refine wp_region_held_drew (S := fun W => Below w3.heap.size w3 W) (by kernel_rfl) (((Drawn0.refl w3).step 1).below) (fun hS => ?_)
          refine wpAnyH_take (i := 0) (oi := { dst := some 33, op := _, type := _, pos := _, after := _, guard := _ }) (v := .slice A3 qx c3) rfl (by kernel_rfl) (by kernel_rfl) (by kernel_rfl) (fun _ _ _ h => h) (Or.inl ⟨by rfl, fun W hW => ?_⟩) hS ?_
          · (go_simp)
          try simp only [Act.put, List.setIfInBounds_toArray, List.set_cons_zero, List.set_cons_succ]
          refine wpAnyH_take (i := 1) (oi := { dst := some 34, op := _, type := _, pos := _, after := _, guard := _ }) (v := .int .i64 (m : Int)) rfl (by kernel_rfl) (by kernel_rfl) (by kernel_rfl) (fun _ _ _ h => h) (Or.inl ⟨by rfl, fun W hW => ?_⟩) hS ?_
          · (go_simp)
          try simp only [Act.put, List.setIfInBounds_toArray, List.set_cons_zero, List.set_cons_succ]
          refine wpAnyH_take (i := 2) (oi := { dst := some 35, op := _, type := _, pos := _, after := _, guard := _ }) (v := .slice A3 m c3) rfl (by kernel_rfl) (by kernel_rfl) (by kernel_rfl) (fun _ _ _ h => h) (Or.inl ⟨by rfl, fun W hW => ?_⟩) hS ?_
          · (have hcut := HCUT.out A3 qx c3 W hmx hc3; go_simp)
          try simp only [Act.put, List.setIfInBounds_toArray, List.set_cons_zero, List.set_cons_succ]
          refine wpAnyH_take (i := 3) (oi := { dst := some 36, op := _, type := _, pos := _, after := _, guard := _ }) (v := .string s1) rfl (by kernel_rfl) (by kernel_rfl) (by kernel_rfl) (fun _ _ _ h => h) (Or.inl ⟨by rfl, fun W hW => ?_⟩) hS ?_
          · (have hcv := HS1.out ▸ Sx.reads_string (P := Try.prog) (c := c3) Try.underlying22 Try.underlying5 Try.underlying9 ((rdint (Kd.C_below D3.out hW)).take_ m (by omega)); go_simp)
          try simp only [Act.put, List.setIfInBounds_toArray, List.set_cons_zero, List.set_cons_succ]
          refine wpAnyH_take (i := 4) (oi := { dst := some 37, op := _, type := _, pos := _, after := _, guard := _ }) (v := .slice A4 m c4) rfl (by kernel_rfl) (by kernel_rfl) (by kernel_rfl) (fun _ _ _ h => h) (Or.inl ⟨by rfl, fun W hW => ?_⟩) hS ?_
          · (go_simp)
          try simp only [Act.put, List.setIfInBounds_toArray, List.set_cons_zero, List.set_cons_succ]
          refine wpAnyH_take (i := 5) (oi := { dst := some 38, op := _, type := _, pos := _, after := _, guard := _ }) (v := .int .i64 (m : Int)) rfl (by kernel_rfl) (by kernel_rfl) (by kernel_rfl) (fun _ _ _ h => h) (Or.inl ⟨by rfl, fun W hW => ?_⟩) hS ?_
          · (go_simp)
          try simp only [Act.put, List.setIfInBounds_toArray, List.set_cons_zero, List.set_cons_succ]
          refine wpAnyH_take (i := 6) (oi := { dst := some 39, op := _, type := _, pos := _, after := _, guard := _ }) (v := .slice A4 m c4) rfl (by kernel_rfl) (by kernel_rfl) (by kernel_rfl) (fun _ _ _ h => h) (Or.inl ⟨by rfl, fun W hW => ?_⟩) hS ?_
          · (have hcut := HCUT.out A4 m c4 W hmy hc4; go_simp)
          try simp only [Act.put, List.setIfInBounds_toArray, List.set_cons_zero, List.set_cons_succ]
          refine wpAnyH_take (i := 7) (oi := { dst := some 40, op := _, type := _, pos := _, after := _, guard := _ }) (v := .string s2) rfl (by kernel_rfl) (by kernel_rfl) (by kernel_rfl) (fun _ _ _ h => h) (Or.inl ⟨by rfl, fun W hW => ?_⟩) hS ?_
          · (have hcv := HS2.out ▸ Sx.reads_string (P := Try.prog) (c := c4) Try.underlying22 Try.underlying5 Try.underlying9 ((rdint (Kd.C_below C4.out hW)).take_ m (by omega)); go_simp)
          try simp only [Act.put, List.setIfInBounds_toArray, List.set_cons_zero, List.set_cons_succ]
          refine wpAnyH_take (i := 8) (oi := { dst := some 41, op := _, type := _, pos := _, after := _, guard := _ }) (v := .bool false) rfl (by kernel_rfl) (by kernel_rfl) (by kernel_rfl) (fun _ _ _ h => h) (Or.inl ⟨by rfl, fun W hW => ?_⟩) hS ?_
          · (have hstr := HSTR.out; go_simp)
          try simp only [Act.put, List.setIfInBounds_toArray, List.set_cons_zero, List.set_cons_succ]
          refine wpAnyH_take (i := 9) (oi := { dst := some 42, op := _, type := _, pos := _, after := _, guard := _ }) (v := .slice A n c) rfl (by kernel_rfl) (by kernel_rfl) (by kernel_rfl) (fun _ _ _ h => h) (Or.inl ⟨by rfl, fun W hW => ?_⟩) hS ?_
          · (go_simp)
          try simp only [Act.put, List.setIfInBounds_toArray, List.set_cons_zero, List.set_cons_succ]
          refine wpAnyH_take (i := 10) (oi := { dst := some 43, op := _, type := _, pos := _, after := _, guard := _ }) (v := .slice A2 n2 c2) rfl (by kernel_rfl) (by kernel_rfl) (by kernel_rfl) (fun _ _ _ h => h) (Or.inl ⟨by rfl, fun W hW => ?_⟩) hS ?_
          · (go_simp)
          try simp only [Act.put, List.setIfInBounds_toArray, List.set_cons_zero, List.set_cons_succ]
          refine wpAnyH_ready (rs := [11]) (by kernel_rfl) (by simp) ?_
          refine AllReadyH.cons (o := { dst := some 44, op := _, type := _, pos := _, after := _, guard := _ }) rfl (fun K hK => ?_) AllReadyH.nil
          go_simp
          (go_at_call 11)
          refine (SameP w3.drew A n c la (Kd.C_below HC.out (below_then B3.out B3.out.size hS)) HN.out hc A2 n2 c2 lb (Kd.C_below HC2.out (below_then B3.out B3.out.size hS)) HN2.out hc2 false HSAME.out).mono ?_
          rintro e w5 ⟨rfl, p1⟩
          have hS2 := below_then hS hS.size p1.below
          go_wp2_with fail
          refine hK.out _ _ hS2 (fun hS3 => ?_)
          clear hK K hS p1
          have hS := hS2
          clear hS2 hS3
          try simp only [Act.put, List.setIfInBounds_toArray, List.set_cons_zero, List.set_cons_succ]
          refine wpAnyH_take (i := 12) (oi := { dst := some 45, op := _, type := _, pos := _, after := _, guard := _ }) (v := .bool true) rfl (by kernel_rfl) (by kernel_rfl) (by kernel_rfl) (fun _ _ _ h => h) (Or.inl ⟨by rfl, fun W hW => ?_⟩) hS ?_
          · (go_simp)
          try simp only [Act.put, List.setIfInBounds_toArray, List.set_cons_zero, List.set_cons_succ]
          refine wpAnyH_take (i := 13) (oi := { dst := some 46, op := _, type := _, pos := _, after := _, guard := _ }) (v := .bool true) rfl (by kernel_rfl) (by kernel_rfl) (by kernel_rfl) (fun _ _ _ h => h) (Or.inl ⟨by rfl, fun W hW => ?_⟩) hS ?_
          · (go_simp)
          try simp only [Act.put, List.setIfInBounds_toArray, List.set_cons_zero, List.set_cons_succ]
          refine wpAnyH_take (i := 14) (oi := { dst := some 47, op := _, type := _, pos := _, after := _, guard := _ }) (v := .slice A n c) rfl (by kernel_rfl) (by kernel_rfl) (by kernel_rfl) (fun _ _ _ h => h) (Or.inl ⟨by rfl, fun W hW => ?_⟩) hS ?_
          · (go_simp)
          try simp only [Act.put, List.setIfInBounds_toArray, List.set_cons_zero, List.set_cons_succ]
          refine wpAnyH_take (i := 15) (oi := { dst := some 48, op := _, type := _, pos := _, after := _, guard := _ }) (v := .slice A2 n2 c2) rfl (by kernel_rfl) (by kernel_rfl) (by kernel_rfl) (fun _ _ _ h => h) (Or.inl ⟨by rfl, fun W hW => ?_⟩) hS ?_
          · (go_simp)
          try simp only [Act.put, List.setIfInBounds_toArray, List.set_cons_zero, List.set_cons_succ]
          refine wpAnyH_ready (rs := [16]) (by kernel_rfl) (by simp) ?_
          refine AllReadyH.cons (o := { dst := some 49, op := _, type := _, pos := _, after := _, guard := _ }) rfl (fun K hK => ?_) AllReadyH.nil
          go_simp
          (go_at_call 11)
          refine (SameP w5 A n c la (Kd.C_below HC.out (below_then B3.out B3.out.size hS)) HN.out hc A2 n2 c2 lb (Kd.C_below HC2.out (below_then B3.out B3.out.size hS)) HN2.out hc2 false HSAME.out).mono ?_
          rintro e w6 ⟨rfl, p1⟩
          have hS2 := below_then hS hS.size p1.below
          go_wp2_with fail
          refine hK.out _ _ hS2 (fun hS3 => ?_)
          clear hK K hS p1
          have hS := hS2
          clear hS2 hS3
          try simp only [Act.put, List.setIfInBounds_toArray, List.set_cons_zero, List.set_cons_succ]
          refine wpAnyH_take (i := 17) (oi := { dst := some 50, op := _, type := _, pos := _, after := _, guard := _ }) (v := .bool true) rfl (by kernel_rfl) (by kernel_rfl) (by kernel_rfl) (fun _ _ _ h => h) (Or.inl ⟨by rfl, fun W hW => ?_⟩) hS ?_
          · (go_simp)
          try simp only [Act.put, List.setIfInBounds_toArray, List.set_cons_zero, List.set_cons_succ]
          refine wpAnyH_take (i := 18) (oi := { dst := some 51, op := _, type := _, pos := _, after := _, guard := _ }) (v := .bool true) rfl (by kernel_rfl) (by kernel_rfl) (by kernel_rfl) (fun _ _ _ h => h) (Or.inl ⟨by rfl, fun W hW => ?_⟩) hS ?_
          · (go_simp)
          try simp only [Act.put, List.setIfInBounds_toArray, List.set_cons_zero, List.set_cons_succ]
          refine wpAnyH_take (i := 19) (oi := { dst := some 52, op := _, type := _, pos := _, after := _, guard := _ }) (v := undef) rfl (by kernel_rfl) (by kernel_rfl) (by kernel_rfl) (fun _ _ _ h => h) (Or.inr ⟨by rfl, rfl⟩) hS ?_
          try simp only [Act.put, List.setIfInBounds_toArray, List.set_cons_zero, List.set_cons_succ]
          refine wpAnyH_take (i := 20) (oi := { dst := some 53, op := _, type := _, pos := _, after := _, guard := _ }) (v := undef) rfl (by kernel_rfl) (by kernel_rfl) (by kernel_rfl) (fun _ _ _ h => h) (Or.inr ⟨by rfl, rfl⟩) hS ?_
          try simp only [Act.put, List.setIfInBounds_toArray, List.set_cons_zero, List.set_cons_succ]
          refine wpAnyH_take (i := 21) (oi := { dst := some 54, op := _, type := _, pos := _, after := _, guard := _ }) (v := undef) rfl (by kernel_rfl) (by kernel_rfl) (by kernel_rfl) (fun _ _ _ h => h) (Or.inr ⟨by rfl, rfl⟩) hS ?_
          try simp only [Act.put, List.setIfInBounds_toArray, List.set_cons_zero, List.set_cons_succ]
          refine wpAnyH_take (i := 22) (oi := { dst := some 55, op := _, type := _, pos := _, after := _, guard := _ }) (v := undef) rfl (by kernel_rfl) (by kernel_rfl) (by kernel_rfl) (fun _ _ _ h => h) (Or.inr ⟨by rfl, rfl⟩) hS ?_
          try simp only [Act.put, List.setIfInBounds_toArray, List.set_cons_zero, List.set_cons_succ]
          refine wpAnyH_take (i := 23) (oi := { dst := some 56, op := _, type := _, pos := _, after := _, guard := _ }) (v := undef) rfl (by kernel_rfl) (by kernel_rfl) (by kernel_rfl) (fun _ _ _ h => h) (Or.inr ⟨by rfl, rfl⟩) hS ?_
          try simp only [Act.put, List.setIfInBounds_toArray, List.set_cons_zero, List.set_cons_succ]
          refine wpAnyH_take (i := 24) (oi := { dst := some 57, op := _, type := _, pos := _, after := _, guard := _ }) (v := .bool true) rfl (by kernel_rfl) (by kernel_rfl) (by kernel_rfl) (fun _ _ _ h => h) (Or.inl ⟨by rfl, fun W hW => ?_⟩) hS ?_
          · (go_simp)
          try simp only [Act.put, List.setIfInBounds_toArray, List.set_cons_zero, List.set_cons_succ]
          refine wpAnyH_take (i := 25) (oi := { dst := some 58, op := _, type := _, pos := _, after := _, guard := _ }) (v := .bool true) rfl (by kernel_rfl) (by kernel_rfl) (by kernel_rfl) (fun _ _ _ h => h) (Or.inl ⟨by rfl, fun W hW => ?_⟩) hS ?_
          · (go_simp)
          try simp only [Act.put, List.setIfInBounds_toArray, List.set_cons_zero, List.set_cons_succ]
          refine wpAnyH_take (i := 26) (oi := { dst := some 4, op := _, type := _, pos := _, after := _, guard := _ }) (v := .bool true) rfl (by kernel_rfl) (by kernel_rfl) (by kernel_rfl) (fun _ _ _ h => h) (Or.inl ⟨by rfl, fun W hW => ?_⟩) hS ?_
          · (go_simp)
          try simp only [Act.put, List.setIfInBounds_toArray, List.set_cons_zero, List.set_cons_succ]
          refine wpAnyH_done (by kernel_rfl) ?_ _
          go_wp2
          go_ret
          exact ⟨rfl, below_then B3.out B3.out.size hS⟩
      · obtain rfl : m = qx := by rw [hm, if_neg hlt]
        clear hm hmin
        cases sm with
        | true =>
          have hqq : ((m : Int) == (qy : Int)) = true := by have := HLEN.out rfl; simp; omega
          go_enter Try.func6, Try.ntmps6
          have TK := Aside0.mk trivial
          go_wp2_with (first | (go_at_call 8; go_must (refine (Pg.fixed w).mono ?_; rintro e w1 ⟨rfl, p1⟩; have B1 := Aside0.mk p1; clear p1)) | (go_at_call 12; have t := TK.out; clear TK; refine (EncOk w1 A n c la (Kd.C_below HC.out B1.out) HN.out hc HM.out HLA.out).mono ?_; rintro e w2 ⟨v2, rfl, p1⟩; rw [← HX.out] at p1; obtain ⟨A3, c3, rfl, hc3, hC3⟩ := p1.reads 0 rfl; rw [← HQX.out] at hc3 hC3 ⊢; have C3 := Aside0.mk hC3; have B2 := Aside0.mk (below_then B1.out B1.out.size p1.below); clear p1 t hC3) | (go_at_call 12; go_must (refine (EncOk w2 A2 n2 c2 lb (Kd.C_below HC2.out B2.out) HN2.out hc2 HMB.out HLB.out).mono ?_; rintro e w3 ⟨v3, rfl, p1⟩; rw [← HY.out] at p1; obtain ⟨A4, c4, rfl, hc4, hC4⟩ := p1.reads 0 rfl; rw [← HQY.out] at hc4 hC4 ⊢; have C4 := Aside0.mk hC4; have D3 := Aside0.mk (Kd.C_below C3.out p1.below); have B3 := Aside0.mk (below_then B2.out B2.out.size p1.below); clear p1 hC4)))
          refine wp_region_held_drew (S := fun W => Below w3.heap.size w3 W) (by kernel_rfl) (((Drawn0.refl w3).step 1).below) (fun hS => ?_)
          refine wpAnyH_take (i := 0) (oi := { dst := some 33, op := _, type := _, pos := _, after := _, guard := _ }) (v := .slice A3 m c3) rfl (by kernel_rfl) (by kernel_rfl) (by kernel_rfl) (fun _ _ _ h => h) (Or.inl ⟨by rfl, fun W hW => ?_⟩) hS ?_
          · (go_simp)
          try simp only [Act.put, List.setIfInBounds_toArray, List.set_cons_zero, List.set_cons_succ]
          refine wpAnyH_take (i := 1) (oi := { dst := some 34, op := _, type := _, pos := _, after := _, guard := _ }) (v := .int .i64 (m : Int)) rfl (by kernel_rfl) (by kernel_rfl) (by kernel_rfl) (fun _ _ _ h => h) (Or.inl ⟨by rfl, fun W hW => ?_⟩) hS ?_
          · (go_simp)
          try simp only [Act.put, List.setIfInBounds_toArray, List.set_cons_zero, List.set_cons_succ]
          refine wpAnyH_take (i := 2) (oi := { dst := some 35, op := _, type := _, pos := _, after := _, guard := _ }) (v := .slice A3 m c3) rfl (by kernel_rfl) (by kernel_rfl) (by kernel_rfl) (fun _ _ _ h => h) (Or.inl ⟨by rfl, fun W hW => ?_⟩) hS ?_
          · (have hcut := HCUT.out A3 m c3 W hmx hc3; go_simp)
          try simp only [Act.put, List.setIfInBounds_toArray, List.set_cons_zero, List.set_cons_succ]
          refine wpAnyH_take (i := 3) (oi := { dst := some 36, op := _, type := _, pos := _, after := _, guard := _ }) (v := .string s1) rfl (by kernel_rfl) (by kernel_rfl) (by kernel_rfl) (fun _ _ _ h => h) (Or.inl ⟨by rfl, fun W hW => ?_⟩) hS ?_
          · (have hcv := HS1.out ▸ Sx.reads_string (P := Try.prog) (c := c3) Try.underlying22 Try.underlying5 Try.underlying9 ((rdint (Kd.C_below D3.out hW)).take_ m (by omega)); go_simp)
          try simp only [Act.put, List.setIfInBounds_toArray, List.set_cons_zero, List.set_cons_succ]
          refine wpAnyH_take (i := 4) (oi := { dst := some 37, op := _, type := _, pos := _, after := _, guard := _ }) (v := .slice A4 qy c4) rfl (by kernel_rfl) (by kernel_rfl) (by kernel_rfl) (fun _ _ _ h => h) (Or.inl ⟨by rfl, fun W hW => ?_⟩) hS ?_
          · (go_simp)
          try simp only [Act.put, List.setIfInBounds_toArray, List.set_cons_zero, List.set_cons_succ]
          refine wpAnyH_take (i := 5) (oi := { dst := some 38, op := _, type := _, pos := _, after := _, guard := _ }) (v := .int .i64 (m : Int)) rfl (by kernel_rfl) (by kernel_rfl) (by kernel_rfl) (fun _ _ _ h => h) (Or.inl ⟨by rfl, fun W hW => ?_⟩) hS ?_
          · (go_simp)
          try simp only [Act.put, List.setIfInBounds_toArray, List.set_cons_zero, List.set_cons_succ]
          refine wpAnyH_take (i := 6) (oi := { dst := some 39, op := _, type := _, pos := _, after := _, guard := _ }) (v := .slice A4 m c4) rfl (by kernel_rfl) (by kernel_rfl) (by kernel_rfl) (fun _ _ _ h => h) (Or.inl ⟨by rfl, fun W hW => ?_⟩) hS ?_
          · (have hcut := HCUT.out A4 qy c4 W hmy hc4; go_simp)
          try simp only [Act.put, List.setIfInBounds_toArray, List.set_cons_zero, List.set_cons_succ]
          refine wpAnyH_take (i := 7) (oi := { dst := some 40, op := _, type := _, pos := _, after := _, guard := _ }) (v := .string s2) rfl (by kernel_rfl) (by kernel_rfl) (by kernel_rfl) (fun _ _ _ h => h) (Or.inl ⟨by rfl, fun W hW => ?_⟩) hS ?_
          · (have hcv := HS2.out ▸ Sx.reads_string (P := Try.prog) (c := c4) Try.underlying22 Try.underlying5 Try.underlying9 ((rdint (Kd.C_below C4.out hW)).take_ m (by omega)); go_simp)
          try simp only [Act.put, List.setIfInBounds_toArray, List.set_cons_zero, List.set_cons_succ]
          refine wpAnyH_take (i := 8) (oi := { dst := some 41, op := _, type := _, pos := _, after := _, guard := _ }) (v := .bool true) rfl (by kernel_rfl) (by kernel_rfl) (by kernel_rfl) (fun _ _ _ h => h) (Or.inl ⟨by rfl, fun W hW => ?_⟩) hS ?_
          · (have hstr := HSTR.out; go_simp)
          try simp only [Act.put, List.setIfInBounds_toArray, List.set_cons_zero, List.set_cons_succ]
          refine wpAnyH_take (i := 9) (oi := { dst := some 42, op := _, type := _, pos := _, after := _, guard := _ }) (v := .slice A n c) rfl (by kernel_rfl) (by kernel_rfl) (by kernel_rfl) (fun _ _ _ h => h) (Or.inl ⟨by rfl, fun W hW => ?_⟩) hS ?_
          · (go_simp)
          try simp only [Act.put, List.setIfInBounds_toArray, List.set_cons_zero, List.set_cons_succ]
          refine wpAnyH_take (i := 10) (oi := { dst := some 43, op := _, type := _, pos := _, after := _, guard := _ }) (v := .slice A2 n2 c2) rfl (by kernel_rfl) (by kernel_rfl) (by kernel_rfl) (fun _ _ _ h => h) (Or.inl ⟨by rfl, fun W hW => ?_⟩) hS ?_
          · (go_simp)
          try simp only [Act.put, List.setIfInBounds_toArray, List.set_cons_zero, List.set_cons_succ]
          refine wpAnyH_ready (rs := [11]) (by kernel_rfl) (by simp) ?_
          refine AllReadyH.cons (o := { dst := some 44, op := _, type := _, pos := _, after := _, guard := _ }) rfl (fun K hK => ?_) AllReadyH.nil
          go_simp
          (go_at_call 11)
          refine (SameP w3.drew A n c la (Kd.C_below HC.out (below_then B3.out B3.out.size hS)) HN.out hc A2 n2 c2 lb (Kd.C_below HC2.out (below_then B3.out B3.out.size hS)) HN2.out hc2 true HSAME.out).mono ?_
          rintro e w5 ⟨rfl, p1⟩
          have hS2 := below_then hS hS.size p1.below
          go_wp2_with fail
          refine hK.out _ _ hS2 (fun hS3 => ?_)
          clear hK K hS p1
          have hS := hS2
          clear hS2 hS3
          try simp only [Act.put, List.setIfInBounds_toArray, List.set_cons_zero, List.set_cons_succ]
          refine wpAnyH_take (i := 12) (oi := { dst := some 45, op := _, type := _, pos := _, after := _, guard := _ }) (v := .bool true) rfl (by kernel_rfl) (by kernel_rfl) (by kernel_rfl) (fun _ _ _ h => h) (Or.inl ⟨by rfl, fun W hW => ?_⟩) hS ?_
          · (go_simp)
          try simp only [Act.put, List.setIfInBounds_toArray, List.set_cons_zero, List.set_cons_succ]
          refine wpAnyH_take (i := 13) (oi := { dst := some 46, op := _, type := _, pos := _, after := _, guard := _ }) (v := .bool true) rfl (by kernel_rfl) (by kernel_rfl) (by kernel_rfl) (fun _ _ _ h => h) (Or.inl ⟨by rfl, fun W hW => ?_⟩) hS ?_
          · (go_simp)
          try simp only [Act.put, List.setIfInBounds_toArray, List.set_cons_zero, List.set_cons_succ]
          refine wpAnyH_take (i := 14) (oi := { dst := some 47, op := _, type := _, pos := _, after := _, guard := _ }) (v := .slice A n c) rfl (by kernel_rfl) (by kernel_rfl) (by kernel_rfl) (fun _ _ _ h => h) (Or.inl ⟨by rfl, fun W hW => ?_⟩) hS ?_
          · (go_simp)
          try simp only [Act.put, List.setIfInBounds_toArray, List.set_cons_zero, List.set_cons_succ]
          refine wpAnyH_take (i := 15) (oi := { dst := some 48, op := _, type := _, pos := _, after := _, guard := _ }) (v := .slice A2 n2 c2) rfl (by kernel_rfl) (by kernel_rfl) (by kernel_rfl) (fun _ _ _ h => h) (Or.inl ⟨by rfl, fun W hW => ?_⟩) hS ?_
          · (go_simp)
          try simp only [Act.put, List.setIfInBounds_toArray, List.set_cons_zero, List.set_cons_succ]
          refine wpAnyH_ready (rs := [16]) (by kernel_rfl) (by simp) ?_
          refine AllReadyH.cons (o := { dst := some 49, op := _, type := _, pos := _, after := _, guard := _ }) rfl (fun K hK => ?_) AllReadyH.nil
          go_simp
          (go_at_call 11)
          refine (SameP w5 A n c la (Kd.C_below HC.out (below_then B3.out B3.out.size hS)) HN.out hc A2 n2 c2 lb (Kd.C_below HC2.out (below_then B3.out B3.out.size hS)) HN2.out hc2 true HSAME.out).mono ?_
          rintro e w6 ⟨rfl, p1⟩
          have hS2 := below_then hS hS.size p1.below
          go_wp2_with fail
          refine hK.out _ _ hS2 (fun hS3 => ?_)
          clear hK K hS p1
          have hS := hS2
          clear hS2 hS3
          try simp only [Act.put, List.setIfInBounds_toArray, List.set_cons_zero, List.set_cons_succ]
          refine wpAnyH_take (i := 17) (oi := { dst := some 50, op := _, type := _, pos := _, after := _, guard := _ }) (v := .bool false) rfl (by kernel_rfl) (by kernel_rfl) (by kernel_rfl) (fun _ _ _ h => h) (Or.inl ⟨by rfl, fun W hW => ?_⟩) hS ?_
          · (go_simp)
          try simp only [Act.put, List.setIfInBounds_toArray, List.set_cons_zero, List.set_cons_succ]
          refine wpAnyH_take (i := 18) (oi := { dst := some 51, op := _, type := _, pos := _, after := _, guard := _ }) (v := .bool false) rfl (by kernel_rfl) (by kernel_rfl) (by kernel_rfl) (fun _ _ _ h => h) (Or.inl ⟨by rfl, fun W hW => ?_⟩) hS ?_
          · (go_simp)
          try simp only [Act.put, List.setIfInBounds_toArray, List.set_cons_zero, List.set_cons_succ]
          refine wpAnyH_take (i := 19) (oi := { dst := some 52, op := _, type := _, pos := _, after := _, guard := _ }) (v := .slice A3 m c3) rfl (by kernel_rfl) (by kernel_rfl) (by kernel_rfl) (fun _ _ _ h => h) (Or.inl ⟨by rfl, fun W hW => ?_⟩) hS ?_
          · (go_simp)
          try simp only [Act.put, List.setIfInBounds_toArray, List.set_cons_zero, List.set_cons_succ]
          refine wpAnyH_take (i := 20) (oi := { dst := some 53, op := _, type := _, pos := _, after := _, guard := _ }) (v := .int .i64 (m : Int)) rfl (by kernel_rfl) (by kernel_rfl) (by kernel_rfl) (fun _ _ _ h => h) (Or.inl ⟨by rfl, fun W hW => ?_⟩) hS ?_
          · (go_simp)
          try simp only [Act.put, List.setIfInBounds_toArray, List.set_cons_zero, List.set_cons_succ]
          refine wpAnyH_take (i := 21) (oi := { dst := some 54, op := _, type := _, pos := _, after := _, guard := _ }) (v := .slice A4 qy c4) rfl (by kernel_rfl) (by kernel_rfl) (by kernel_rfl) (fun _ _ _ h => h) (Or.inl ⟨by rfl, fun W hW => ?_⟩) hS ?_
          · (go_simp)
          try simp only [Act.put, List.setIfInBounds_toArray, List.set_cons_zero, List.set_cons_succ]
          refine wpAnyH_take (i := 22) (oi := { dst := some 55, op := _, type := _, pos := _, after := _, guard := _ }) (v := .int .i64 (qy : Int)) rfl (by kernel_rfl) (by kernel_rfl) (by kernel_rfl) (fun _ _ _ h => h) (Or.inl ⟨by rfl, fun W hW => ?_⟩) hS ?_
          · (go_simp)
          try simp only [Act.put, List.setIfInBounds_toArray, List.set_cons_zero, List.set_cons_succ]
          refine wpAnyH_take (i := 23) (oi := { dst := some 56, op := _, type := _, pos := _, after := _, guard := _ }) (v := .bool true) rfl (by kernel_rfl) (by kernel_rfl) (by kernel_rfl) (fun _ _ _ h => h) (Or.inl ⟨by rfl, fun W hW => ?_⟩) hS ?_
          · (go_simp)
          try simp only [Act.put, List.setIfInBounds_toArray, List.set_cons_zero, List.set_cons_succ]
          refine wpAnyH_take (i := 24) (oi := { dst := some 57, op := _, type := _, pos := _, after := _, guard := _ }) (v := .bool true) rfl (by kernel_rfl) (by kernel_rfl) (by kernel_rfl) (fun _ _ _ h => h) (Or.inl ⟨by rfl, fun W hW => ?_⟩) hS ?_
          · (go_simp)
          try simp only [Act.put, List.setIfInBounds_toArray, List.set_cons_zero, List.set_cons_succ]
          refine wpAnyH_take (i := 25) (oi := { dst := some 58, op := _, type := _, pos := _, after := _, guard := _ }) (v := .bool true) rfl (by kernel_rfl) (by kernel_rfl) (by kernel_rfl) (fun _ _ _ h => h) (Or.inl ⟨by rfl, fun W hW => ?_⟩) hS ?_
          · (go_simp)
          try simp only [Act.put, List.setIfInBounds_toArray, List.set_cons_zero, List.set_cons_succ]
          refine wpAnyH_take (i := 26) (oi := { dst := some 4, op := _, type := _, pos := _, after := _, guard := _ }) (v := .bool true) rfl (by kernel_rfl) (by kernel_rfl) (by kernel_rfl) (fun _ _ _ h => h) (Or.inl ⟨by rfl, fun W hW => ?_⟩) hS ?_
          · (go_simp)
          try simp only [Act.put, List.setIfInBounds_toArray, List.set_cons_zero, List.set_cons_succ]
          refine wpAnyH_done (by kernel_rfl) ?_ _
          go_wp2
          go_ret
          exact ⟨rfl, below_then B3.out B3.out.size hS⟩
        | false =>
          go_enter Try.func6, Try.ntmps6
          have TK := Aside0.mk trivial
          go_wp2_with (first | (go_at_call 8; go_must (refine (Pg.fixed w).mono ?_; rintro e w1 ⟨rfl, p1⟩; have B1 := Aside0.mk p1; clear p1)) | (go_at_call 12; have t := TK.out; clear TK; refine (EncOk w1 A n c la (Kd.C_below HC.out B1.out) HN.out hc HM.out HLA.out).mono ?_; rintro e w2 ⟨v2, rfl, p1⟩; rw [← HX.out] at p1; obtain ⟨A3, c3, rfl, hc3, hC3⟩ := p1.reads 0 rfl; rw [← HQX.out] at hc3 hC3 ⊢; have C3 := Aside0.mk hC3; have B2 := Aside0.mk (below_then B1.out B1.out.size p1.below); clear p1 t hC3) | (go_at_call 12; go_must (refine (EncOk w2 A2 n2 c2 lb (Kd.C_below HC2.out B2.out) HN2.out hc2 HMB.out HLB.out).mono ?_; rintro e w3 ⟨v3, rfl, p1⟩; rw [← HY.out] at p1; obtain ⟨A4, c4, rfl, hc4, hC4⟩ := p1.reads 0 rfl; rw [← HQY.out] at hc4 hC4 ⊢; have C4 := Aside0.mk hC4; have D3 := Aside0.mk (Kd.C_below C3.out p1.below); have B3 := Aside0.mk (below_then B2.out B2.out.size p1.below); clear p1 hC4)))
          refine wp_region_held_drew (S := fun W => Below w3.heap.size w3 W) (by kernel_rfl) (((Drawn0.refl w3).step 1).below) (fun hS => ?_)
          refine wpAnyH_take (i := 0) (oi := { dst := some 33, op := _, type := _, pos := _, after := _, guard := _ }) (v := .slice A3 m c3) rfl (by kernel_rfl) (by kernel_rfl) (by kernel_rfl) (fun _ _ _ h => h) (Or.inl ⟨by rfl, fun W hW => ?_⟩) hS ?_
          · (go_simp)
          try simp only [Act.put, List.setIfInBounds_toArray, List.set_cons_zero, List.set_cons_succ]
          refine wpAnyH_take (i := 1) (oi := { dst := some 34, op := _, type := _, pos := _, after := _, guard := _ }) (v := .int .i64 (m : Int)) rfl (by kernel_rfl) (by kernel_rfl) (by kernel_rfl) (fun _ _ _ h => h) (Or.inl ⟨by rfl, fun W hW => ?_⟩) hS ?_
          · (go_simp)
          try simp only [Act.put, List.setIfInBounds_toArray, List.set_cons_zero, List.set_cons_succ]
          refine wpAnyH_take (i := 2) (oi := { dst := some 35, op := _, type := _, pos := _, after := _, guard := _ }) (v := .slice A3 m c3) rfl (by kernel_rfl) (by kernel_rfl) (by kernel_rfl) (fun _ _ _ h => h) (Or.inl ⟨by rfl, fun W hW => ?_⟩) hS ?_
          · (have hcut := HCUT.out A3 m c3 W hmx hc3; go_simp)
          try simp only [Act.put, List.setIfInBounds_toArray, List.set_cons_zero, List.set_cons_succ]
          refine wpAnyH_take (i := 3) (oi := { dst := some 36, op := _, type := _, pos := _, after := _, guard := _ }) (v := .string s1) rfl (by kernel_rfl) (by kernel_rfl) (by kernel_rfl) (fun _ _ _ h => h) (Or.inl ⟨by rfl, fun W hW => ?_⟩) hS ?_
          · (have hcv := HS1.out ▸ Sx.reads_string (P := Try.prog) (c := c3) Try.underlying22 Try.underlying5 Try.underlying9 ((rdint (Kd.C_below D3.out hW)).take_ m (by omega)); go_simp)
          try simp only [Act.put, List.setIfInBounds_toArray, List.set_cons_zero, List.set_cons_succ]
          refine wpAnyH_take (i := 4) (oi := { dst := some 37, op := _, type := _, pos := _, after := _, guard := _ }) (v := .slice A4 qy c4) rfl (by kernel_rfl) (by kernel_rfl) (by kernel_rfl) (fun _ _ _ h => h) (Or.inl ⟨by rfl, fun W hW => ?_⟩) hS ?_
          · (go_simp)
          try simp only [Act.put, List.setIfInBounds_toArray, List.set_cons_zero, List.set_cons_succ]
          refine wpAnyH_take (i := 5) (oi := { dst := some 38, op := _, type := _, pos := _, after := _, guard := _ }) (v := .int .i64 (m : Int)) rfl (by kernel_rfl) (by kernel_rfl) (by kernel_rfl) (fun _ _ _ h => h) (Or.inl ⟨by rfl, fun W hW => ?_⟩) hS ?_
          · (go_simp)
          try simp only [Act.put, List.setIfInBounds_toArray, List.set_cons_zero, List.set_cons_succ]
          refine wpAnyH_take (i := 6) (oi := { dst := some 39, op := _, type := _, pos := _, after := _, guard := _ }) (v := .slice A4 m c4) rfl (by kernel_rfl) (by kernel_rfl) (by kernel_rfl) (fun _ _ _ h => h) (Or.inl ⟨by rfl, fun W hW => ?_⟩) hS ?_
          · (have hcut := HCUT.out A4 qy c4 W hmy hc4; go_simp)
          try simp only [Act.put, List.setIfInBounds_toArray, List.set_cons_zero, List.set_cons_succ]
          refine wpAnyH_take (i := 7) (oi := { dst := some 40, op := _, type := _, pos := _, after := _, guard := _ }) (v := .string s2) rfl (by kernel_rfl) (by kernel_rfl) (by kernel_rfl) (fun _ _ _ h => h) (Or.inl ⟨by rfl, fun W hW => ?_⟩) hS ?_
          · (have hcv := HS2.out ▸ Sx.reads_string (P := Try.prog) (c := c4) Try.underlying22 Try.underlying5 Try.underlying9 ((rdint (Kd.C_below C4.out hW)).take_ m (by omega)); go_simp)
          try simp only [Act.put, List.setIfInBounds_toArray, List.set_cons_zero, List.set_cons_succ]
          refine wpAnyH_take (i := 8) (oi := { dst := some 41, op := _, type := _, pos := _, after := _, guard := _ }) (v := .bool false) rfl (by kernel_rfl) (by kernel_rfl) (by kernel_rfl) (fun _ _ _ h => h) (Or.inl ⟨by rfl, fun W hW => ?_⟩) hS ?_
          · (have hstr := HSTR.out; go_simp)
          try simp only [Act.put, List.setIfInBounds_toArray, List.set_cons_zero, List.set_cons_succ]
          refine wpAnyH_take (i := 9) (oi := { dst := some 42, op := _, type := _, pos := _, after := _, guard := _ }) (v := .slice A n c) rfl (by kernel_rfl) (by kernel_rfl) (by kernel_rfl) (fun _ _ _ h => h) (Or.inl ⟨by rfl, fun W hW => ?_⟩) hS ?_
          · (go_simp)
          try simp only [Act.put, List.setIfInBounds_toArray, List.set_cons_zero, List.set_cons_succ]
          refine wpAnyH_take (i := 10) (oi := { dst := some 43, op := _, type := _, pos := _, after := _, guard := _ }) (v := .slice A2 n2 c2) rfl (by kernel_rfl) (by kernel_rfl) (by kernel_rfl) (fun _ _ _ h => h) (Or.inl ⟨by rfl, fun W hW => ?_⟩) hS ?_
          · (go_simp)
          try simp only [Act.put, List.setIfInBounds_toArray, List.set_cons_zero, List.set_cons_succ]
          refine wpAnyH_ready (rs := [11]) (by kernel_rfl) (by simp) ?_
          refine AllReadyH.cons (o := { dst := some 44, op := _, type := _, pos := _, after := _, guard := _ }) rfl (fun K hK => ?_) AllReadyH.nil
          go_simp
          (go_at_call 11)
          refine (SameP w3.drew A n c la (Kd.C_below HC.out (below_then B3.out B3.out.size hS)) HN.out hc A2 n2 c2 lb (Kd.C_below HC2.out (below_then B3.out B3.out.size hS)) HN2.out hc2 false HSAME.out).mono ?_
          rintro e w5 ⟨rfl, p1⟩
          have hS2 := below_then hS hS.size p1.below
          go_wp2_with fail
          refine hK.out _ _ hS2 (fun hS3 => ?_)
          clear hK K hS p1
          have hS := hS2
          clear hS2 hS3
          try simp only [Act.put, List.setIfInBounds_toArray, List.set_cons_zero, List.set_cons_succ]
          refine wpAnyH_take (i := 12) (oi := { dst := some 45, op := _, type := _, pos := _, after := _, guard := _ }) (v := .bool true) rfl (by kernel_rfl) (by kernel_rfl) (by kernel_rfl) (fun _ _ _ h => h) (Or.inl ⟨by rfl, fun W hW => ?_⟩) hS ?_
          · (go_simp)
          try simp only [Act.put, List.setIfInBounds_toArray, List.set_cons_zero, List.set_cons_succ]
          refine wpAnyH_take (i := 13) (oi := { dst := some 46, op := _, type := _, pos := _, after := _, guard := _ }) (v := .bool true) rfl (by kernel_rfl) (by kernel_rfl) (by kernel_rfl) (fun _ _ _ h => h) (Or.inl ⟨by rfl, fun W hW => ?_⟩) hS ?_
          · (go_simp)
          try simp only [Act.put, List.setIfInBounds_toArray, List.set_cons_zero, List.set_cons_succ]
          refine wpAnyH_take (i := 14) (oi := { dst := some 47, op := _, type := _, pos := _, after := _, guard := _ }) (v := .slice A n c) rfl (by kernel_rfl) (by kernel_rfl) (by kernel_rfl) (fun _ _ _ h => h) (Or.inl ⟨by rfl, fun W hW => ?_⟩) hS ?_
          · (go_simp)
          try simp only [Act.put, List.setIfInBounds_toArray, List.set_cons_zero, List.set_cons_succ]
          refine wpAnyH_take (i := 15) (oi := { dst := some 48, op := _, type := _, pos := _, after := _, guard := _ }) (v := .slice A2 n2 c2) rfl (by kernel_rfl) (by kernel_rfl) (by kernel_rfl) (fun _ _ _ h => h) (Or.inl ⟨by rfl, fun W hW => ?_⟩) hS ?_
          · (go_simp)
          try simp only [Act.put, List.setIfInBounds_toArray, List.set_cons_zero, List.set_cons_succ]
          refine wpAnyH_ready (rs := [16]) (by kernel_rfl) (by simp) ?_
          refine AllReadyH.cons (o := { dst := some 49, op := _, type := _, pos := _, after := _, guard := _ }) rfl (fun K hK => ?_) AllReadyH.nil
          go_simp
          (go_at_call 11)
          refine (SameP w5 A n c la (Kd.C_below HC.out (below_then B3.out B3.out.size hS)) HN.out hc A2 n2 c2 lb (Kd.C_below HC2.out (below_then B3.out B3.out.size hS)) HN2.out hc2 false HSAME.out).mono ?_
          rintro e w6 ⟨rfl, p1⟩
          have hS2 := below_then hS hS.size p1.below
          go_wp2_with fail
          refine hK.out _ _ hS2 (fun hS3 => ?_)
          clear hK K hS p1
          have hS := hS2
          clear hS2 hS3
          try simp only [Act.put, List.setIfInBounds_toArray, List.set_cons_zero, List.set_cons_succ]
          refine wpAnyH_take (i := 17) (oi := { dst := some 50, op := _, type := _, pos := _, after := _, guard := _ }) (v := .bool true) rfl (by kernel_rfl) (by kernel_rfl) (by kernel_rfl) (fun _ _ _ h => h) (Or.inl ⟨by rfl, fun W hW => ?_⟩) hS ?_
          · (go_simp)
          try simp only [Act.put, List.setIfInBounds_toArray, List.set_cons_zero, List.set_cons_succ]
          refine wpAnyH_take (i := 18) (oi := { dst := some 51, op := _, type := _, pos := _, after := _, guard := _ }) (v := .bool true) rfl (by kernel_rfl) (by kernel_rfl) (by kernel_rfl) (fun _ _ _ h => h) (Or.inl ⟨by rfl, fun W hW => ?_⟩) hS ?_
          · (go_simp)
          try simp only [Act.put, List.setIfInBounds_toArray, List.set_cons_zero, List.set_cons_succ]
          refine wpAnyH_take (i := 19) (oi := { dst := some 52, op := _, type := _, pos := _, after := _, guard := _ }) (v := undef) rfl (by kernel_rfl) (by kernel_rfl) (by kernel_rfl) (fun _ _ _ h => h) (Or.inr ⟨by rfl, rfl⟩) hS ?_
          try simp only [Act.put, List.setIfInBounds_toArray, List.set_cons_zero, List.set_cons_succ]
          refine wpAnyH_take (i := 20) (oi := { dst := some 53, op := _, type := _, pos := _, after := _, guard := _ }) (v := undef) rfl (by kernel_rfl) (by kernel_rfl) (by kernel_rfl) (fun _ _ _ h => h) (Or.inr ⟨by rfl, rfl⟩) hS ?_
          try simp only [Act.put, List.setIfInBounds_toArray, List.set_cons_zero, List.set_cons_succ]
          refine wpAnyH_take (i := 21) (oi := { dst := some 54, op := _, type := _, pos := _, after := _, guard := _ }) (v := undef) rfl (by kernel_rfl) (by kernel_rfl) (by kernel_rfl) (fun _ _ _ h => h) (Or.inr ⟨by rfl, rfl⟩) hS ?_
          try simp only [Act.put, List.setIfInBounds_toArray, List.set_cons_zero, List.set_cons_succ]
          refine wpAnyH_take (i := 22) (oi := { dst := some 55, op := _, type := _, pos := _, after := _, guard := _ }) (v := undef) rfl (by kernel_rfl) (by kernel_rfl) (by kernel_rfl) (fun _ _ _ h => h) (Or.inr ⟨by rfl, rfl⟩) hS ?_
          try simp only [Act.put, List.setIfInBounds_toArray, List.set_cons_zero, List.set_cons_succ]
          refine wpAnyH_take (i := 23) (oi := { dst := some 56, op := _, type := _, pos := _, after := _, guard := _ }) (v := undef) rfl (by kernel_rfl) (by kernel_rfl) (by kernel_rfl) (fun _ _ _ h => h) (Or.inr ⟨by rfl, rfl⟩) hS ?_
          try simp only [Act.put, List.setIfInBounds_toArray, List.set_cons_zero, List.set_cons_succ]
          refine wpAnyH_take (i := 24) (oi := { dst := some 57, op := _, type := _, pos := _, after := _, guard := _ }) (v := .bool true) rfl (by kernel_rfl) (by kernel_rfl) (by kernel_rfl) (fun _ _ _ h => h) (Or.inl ⟨by rfl, fun W hW => ?_⟩) hS ?_
          · (go_simp)
          try simp only [Act.put, List.setIfInBounds_toArray, List.set_cons_zero, List.set_cons_succ]
          refine wpAnyH_take (i := 25) (oi := { dst := some 58, op := _, type := _, pos := _, after := _, guard := _ }) (v := .bool true) rfl (by kernel_rfl) (by kernel_rfl) (by kernel_rfl) (fun _ _ _ h => h) (Or.inl ⟨by rfl, fun W hW => ?_⟩) hS ?_
          · (go_simp)
          try simp only [Act.put, List.setIfInBounds_toArray, List.set_cons_zero, List.set_cons_succ]
          refine wpAnyH_take (i := 26) (oi := { dst := some 4, op := _, type := _, pos := _, after := _, guard := _ }) (v := .bool true) rfl (by kernel_rfl) (by kernel_rfl) (by kernel_rfl) (fun _ _ _ h => h) (Or.inl ⟨by rfl, fun W hW => ?_⟩) hS ?_
          · (go_simp)
          try simp only [Act.put, List.setIfInBounds_toArray, List.set_cons_zero, List.set_cons_succ]
          refine wpAnyH_done (by kernel_rfl) ?_ _
          go_wp2
          go_ret
          exact ⟨rfl, below_then B3.out B3.out.size hS⟩
theorem walk (w : World) (A : Option Addr) (xs : List (Int × List Int)) (c : Nat) (hC : (Kd.pair (Kd.int .i64) (Kd.slice 3 (Kd.int .i64))).C w A xs.length xs) (hc : xs.length ≤ c) (_hw : ∀ x, x ∈ xs → (Lit.int .i64 x.1).wf = true ∧ ∀ y, y ∈ x.2 → (Lit.int .i64 y).wf = true) (hB : Od.sumB (fun x : Int × List Int => 1 + (Od.sumB (fun _ => 1) x.2 + 1) + 1) xs ≤ 1048576)
    (A2 : Option Addr) (xs2 : List (Int × List Int)) (c2 : Nat) (hC2 : (Kd.pair (Kd.int .i64) (Kd.slice 3 (Kd.int .i64))).C w A2 xs2.length xs2) (hc2 : xs2.length ≤ c2) (_hw2 : ∀ x, x ∈ xs2 → (Lit.int .i64 x.1).wf = true ∧ ∀ y, y ∈ x.2 → (Lit.int .i64 y).wf = true) (hB2 : Od.sumB (fun x : Int × List Int => 1 + (Od.sumB (fun _ => 1) x.2 + 1) + 1) xs2 ≤ 1048576) :
    Calls Try.prog 6 #[.slice A xs.length c, .slice A2 xs2.length c2] w fun e w' => e = .returned (.bool true) ∧ Below w.heap.size w w' :=
  main w A xs.length _ c (k_of_pair hC) (by simp) hc (Nat.le_trans (sz_bulk xs) (by omega)) A2 xs2.length _ c2 (k_of_pair hC2) (by simp) hc2 (Nat.le_trans (sz_bulk xs2) (by omega))
end Go.Proofs.Ytpebemljgeammab.Pu
