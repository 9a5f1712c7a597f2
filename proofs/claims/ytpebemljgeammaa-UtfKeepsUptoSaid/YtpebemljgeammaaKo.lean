/-
  UtfKeeps.
-/
import Derived.Deep.RegionHeld3
import Derived.Deep.DeepCutAuto
import Derived.Test.YtpebemljgeammaaRm
import Derived.Test.YtpebemljgeammaaUk
import Derived.BigQuiet
namespace Go.Proofs.Ytpebemljgeammaa.Ko
set_option linter.unusedVariables false
set_option linter.unusedSimpArgs false
open Go.RowKit Go.Proofs.YtpebemljgeammaaW.PrintWords Go.Proofs.Ytpebemljgeammaa.Hp Go.Proofs.Ytpebemljgeammaa.Fm Go.Proofs.Ytpebemljgeammaa.PUtfDecodes Go.Proofs.Ytpebemljgeammaa.Ux Go.Proofs.Ytpebemljgeammaa.Ud Go.Proofs.Ytpebemljgeammaa.Dc Go.Proofs.Ytpebemljgeammaa.Uk Go.Proofs.Ytpebemljgeammaa.Uh Go.Proofs.Ytpebemljgeammaa.Rm

theorem wp_append {o : Oper} {a : Act} {K : Act → World → Prop} {Q : Exit → Act → World → Prop} {W W' : World} {r v1 v2 : Value} (s x : Operand) (t : TypeId) (ho : o.op = .call { callee := .builtin .append, args := #[s, x], argTypes := #[t, t] })
    (hs : a.eval s = v1) (hx : a.eval x = v2) (hr : (Builtin.append_ #[t, t] o.type #[v1, v2]).run Try.prog W = .ok r W') (h : K (a.put o.dst r) W') : o.wp Try.prog a W K Q := by
  unfold Oper.wp execOp
  simp only [ho, resolve, invoke, builtin, Sem.run_bind, Sem.run_pure, Result.andThen_ok, List.map_toArray, List.map_cons, List.map_nil, hs, hx, hr]
  exact h
theorem nums_cell (ys : List Int) (j : Nat) (h : j < ys.length) : (nums .u8 ys).toArray[j]? = some (.int .u8 (ys.getD j 0)) := by
  simp [nums, h]
theorem cut_cap (t e : TypeId) (kh : IntKind) {i : TypeInfo} (ht : Try.prog.underlying t = some (.slice e)) (hi : Try.prog.info? e = some i) (A : Option Addr) (n c : Nat) (j : Int) (h0 : 0 ≤ j) (hm : j ≤ c) :
    ∀ W : World, (Instr.slice t (.slice A n c) none (some (.int kh j)) none).run Try.prog W = .ok (.slice A j.toNat c) W := by
  intro W
  have hel : Try.prog.elem t = e := by simp [Program.elem, ht]
  have hu : Try.prog.underlying t = some (.slice (Try.prog.elem t)) := by rw [hel]; exact ht
  have ha : (A.map fun x => x.add 0) = A := by cases A <;> simp [Addr.add]
  rw [run_slice_h W t A n c hu kh j h0 hm, hel]
  simp [sizeOf, typeInfo, hi, sliced, Result.andThen, ha]
theorem rem_cut (cut : Int) (n : Nat) (hn : n ≤ 1048576) : ∃ N : Nat, N ≤ n ∧ wrap64 ((IntKind.u64.wrap cut).tmod ((n : Int) + 1)) = (N : Int) := by
  have e : IntKind.u64.wrap cut = cut % 18446744073709551616 := by simp [IntKind.wrap, IntKind.bits, IntKind.signed]
  have h1 : 0 ≤ IntKind.u64.wrap cut := by rw [e]; exact Int.emod_nonneg _ (by decide)
  have h2 := Int.tmod_lt_of_pos (IntKind.u64.wrap cut) (show (0 : Int) < (n : Int) + 1 by omega)
  have h3 := Int.tmod_nonneg ((n : Int) + 1) h1
  refine ⟨((IntKind.u64.wrap cut).tmod ((n : Int) + 1)).toNat, by omega, ?_⟩
  unfold wrap64
  omega
set_option maxRecDepth 100000 in
set_option maxHeartbeats 4000000 in
theorem keeps (w : World) (A : Option Addr) (b : List Int) (c : Nat) (hC : KB.C w A b.length b) (hc : b.length ≤ c) (hw : ∀ y, y ∈ b → (Lit.int .u8 y).wf = true) (hb : Od.sumB (fun _ => 1) b ≤ 1048576) (cut : Int) (hwc : (Lit.int .i64 cut).wf = true) :
    Calls Try.prog 11 #[.slice A b.length c, .int .i64 cut] w fun e w' => e = .returned (.bool true) ∧ Below w.heap.size w w' := by
  have hbl := Nat.le_trans (Od.sumB_len (fun _ => Nat.le_refl _) b) hb
  have hBY := wf_bytes hw
  obtain ⟨n, hn⟩ : ∃ n, n = b.length := ⟨_, rfl⟩
  rw [← hn] at hC hc hbl ⊢
  have HC := Aside0.mk hC
  have HB := Aside0.mk hBY
  have HN := Aside0.mk hn
  have hcb : -9223372036854775808 ≤ cut ∧ cut ≤ 9223372036854775807 := by simp [Lit.wf, IntKind.min, IntKind.max, IntKind.signed, IntKind.bits] at hwc; exact hwc
  clear hC hw hb hBY hn hwc
  obtain ⟨i8, hi8, hz8⟩ := Option.map_eq_some_iff.1 Rm.info_8
  simp only [Prod.mk.injEq] at hz8
  have HMK := Aside0.mk (show ∀ W : World, (Instr.makeSlice 33 (.int .i64 0) (.int .i64 ((n : Int) + 8))).run Try.prog W = .ok (.slice (some ⟨W.heap.size, 0, none⟩) 0 (n + 8)) (W.alloc (.cells (nums .u8 (List.replicate (n + 8) 0)).toArray 5)) by
    intro W
    have := run_make (P := Try.prog) W 33 5 i8 (.int .u8 0) Try.underlying33 hi8 hz8.1 .i64 .i64 0 ((n : Int) + 8) (Int.le_refl _) (by omega) (by rw [hz8.2.2]; omega) (by omega)
    rw [hz8.2.1, made] at this
    simpa [show ((n : Int) + 8).toNat = n + 8 by omega] using this)
  have HFUL := Aside0.mk (show ∀ (g N : Nat) (W : World), (Instr.slice 33 (.slice (some ⟨g, 0, none⟩) N (n + 8)) none (some (.int .i64 ((n : Int) + 8))) none).run Try.prog W = .ok (.slice (some ⟨g, 0, none⟩) (n + 8) (n + 8)) W by
    intro g N W
    have := cut_cap 33 5 .i64 Try.underlying33 hi8 (some ⟨g, 0, none⟩) N (n + 8) ((n : Int) + 8) (by omega) (by omega) W
    simpa [show ((n : Int) + 8).toNat = n + 8 by omega] using this)
  have hw8 : IntKind.i64.wrap ((n : Int) + 8) = (n : Int) + 8 := by rw [IntKind.wrap_i64]; omega
  have HCFR := Aside0.mk (show ∀ (N : Nat), N ≤ n → ∀ W : World, (Instr.slice 33 (.slice A n c) (some (.int .i64 (N : Int))) none none).run Try.prog W = .ok (.slice (if c = N then A else A.map (·.add (N * 1))) (n - N) (c - N)) W by
    intro N hN W
    have := cut_from (P := Try.prog) 33 5 .i64 Try.underlying33 hi8 1 hz8.2.1 A n c (N : Int) (by omega) (by omega) W
    simpa using this)
  obtain ⟨N0, hN0, hrem⟩ := rem_cut cut n hbl
  go_enter Try.func11, Try.ntmps11
  go_upto_if 20 with (first | (go_at_call 40; refine (Ug.fixed w).mono ?_; rintro e w1 ⟨rfl, h1⟩; have H1 := Aside0.mk h1; clear h1))
  go_cut [5] (fun v5 wc => ∃ N : Nat, N ≤ n ∧ v5 = .int .i64 N ∧ Aside0 (Below w.heap.size w wc))
  case first =>
    by_cases hn0 : 0 < n
    · have hd : decide (0 < n) = true := decide_eq_true hn0
      go_wp2
      go_meet
      case rel => exact ⟨N0, hN0, by first | rfl | rw [hrem], H1⟩
    · have hd : decide (0 < n) = false := decide_eq_false hn0
      go_wp2
      go_meet
      case rel => exact ⟨0, Nat.zero_le _, rfl, H1⟩
  case rest =>
    clear hrem H1
    obtain ⟨N, hNn, rfl, H1⟩ := hcut
    have hcutf : ∀ W : World, (Instr.slice 33 (.slice A n c) none (some (.int .i64 (N : Int))) none).run Try.prog W = .ok (.slice A N c) W := by
      intro W
      have := cut_to (P := Try.prog) 33 5 .i64 Try.underlying33 hi8 A n c (N : Int) (by omega) (by omega) hc W
      simpa using this
    obtain ⟨AN, hAN⟩ : ∃ AN, AN = if c = N then A else A.map (·.add (N * 1)) := ⟨_, rfl⟩
    have HCF := Aside0.mk (HCFR.out N hNn)
    rw [← hAN] at HCF
    have HRD := Aside0.mk (show ∀ W : World, Below w.heap.size w W → ReadsInt W .u8 AN (n - N) (b.drop N) from fun W hW => by
      have h := (rdint (Kd.C_below HC.out hW)).drop_ N hNn hc
      rw [hAN, Nat.mul_one]
      exact h)
    have hb1 : Bytes (b.take N) := fun y hy => HB.out y (List.mem_of_mem_take hy)
    have hl1 := dc_len (b.take N) 0
    have hl3 := dc_rest (b.take N) 0
    have hl2 : (b.take N).length = N := by rw [List.length_take, ← HN.out]; omega
    obtain ⟨Y, hY⟩ : ∃ Y, Y = (dc ((dc (b.take N) 0).2.1 ++ b.drop N) (dc (b.take N) 0).2.2).1 := ⟨_, rfl⟩
    obtain ⟨R2, hR2⟩ : ∃ R, R = (dc ((dc (b.take N) 0).2.1 ++ b.drop N) (dc (b.take N) 0).2.2).2.1 := ⟨_, rfl⟩
    obtain ⟨E2, hE2⟩ : ∃ E, E = (dc ((dc (b.take N) 0).2.1 ++ b.drop N) (dc (b.take N) 0).2.2).2.2 := ⟨_, rfl⟩
    obtain ⟨Z1, hZ1⟩ : ∃ Z, Z = rest1 R2 E2 := ⟨_, rfl⟩
    obtain ⟨P1, hP1⟩ : ∃ P, P = Y ++ Z1 := ⟨_, rfl⟩
    obtain ⟨V, hV⟩ : ∃ V, V = (dc b 0).1 := ⟨_, rfl⟩
    obtain ⟨R3, hR3⟩ : ∃ R, R = (dc b 0).2.1 := ⟨_, rfl⟩
    obtain ⟨E3, hE3⟩ : ∃ E, E = (dc b 0).2.2 := ⟨_, rfl⟩
    obtain ⟨Z2, hZ2⟩ : ∃ Z, Z = rest1 R3 E3 := ⟨_, rfl⟩
    obtain ⟨F, hF⟩ : ∃ F, F = full b := ⟨_, rfl⟩
    have hP2 : V ++ Z2 = F := by rw [hV, hZ2, hR3, hE3, hF]; rfl
    have hap := dc_append (b.take N) (b.drop N) 0
    rw [List.take_append_drop] at hap
    have hP3 : (dc (b.take N) 0).1 ++ P1 = F := by
      rw [hP1, hZ1, hY, hR2, hE2, hF]
      unfold full
      rw [hap]
      simp
    have hFl : F.length ≤ n := by rw [hF, HN.out]; exact full_len b
    have hF1 := congrArg List.length hP2
    have hF2 := congrArg List.length hP3
    rw [List.length_append] at hF1 hF2
    have hP1l := congrArg List.length hP1
    rw [List.length_append] at hP1l
    have HYY := Aside0.mk hY
    have HR22 := Aside0.mk hR2
    have HE22 := Aside0.mk hE2
    have HZ1 := Aside0.mk hZ1.symm
    have HP1 := Aside0.mk hP1
    have HV := Aside0.mk hV
    have HR3 := Aside0.mk hR3
    have HE3 := Aside0.mk hE3
    have HZ2 := Aside0.mk hZ2
    have HP2 := Aside0.mk hP2
    have HP33 := Aside0.mk hP3
    have HFL := Aside0.mk (show F.length ≤ 1000000000 by omega)
    have HYL1 := Aside0.mk (show (Y.length + Z1.length) * 24 ≤ 140737488355328 by omega)
    have HVL1 := Aside0.mk (show (V.length + Z2.length) * 24 ≤ 140737488355328 by omega)
    have HXL0 := Aside0.mk (show ((dc (b.take N) 0).1.length + P1.length) * 24 ≤ 140737488355328 by omega)
    have HKB0 := Aside0.mk (show Bytes ((dc (b.take N) 0).2.1 ++ b.drop N) from fun y hy => by
      rcases List.mem_append.1 hy with h | h
      · exact dc_bytes hb1 0 y h
      · exact HB.out y (List.mem_of_mem_drop h))
    have HKL0 := Aside0.mk (show (dc (b.take N) 0).2.1.length + (n - N) ≤ 1000000000 by have := hl3.1; omega)
    have HKE0 := Aside0.mk (show 0 ≤ (dc (b.take N) 0).2.2 ∧ (dc (b.take N) 0).2.2 ≤ 4000000000000000 by omega)
    clear hAN hb1 hl1 hl2 hl3 hY hR2 hE2 hZ1 hP1 hV hR3 hE3 hZ2 hF hP2 hap hP3 hFl hF1 hF2 hP1l
    clear hi8 hz8
    go_upto_region 6 with (fail)
    refine wp_region_held_drew (S := fun W => Below wc.heap.size wc W) (by kernel_rfl) (((Drawn0.refl wc).step 1).below) (fun hS => ?_)
    refine wpAnyH_take (i := 0) (oi := { dst := some 29, op := _, type := _, pos := _, after := _, guard := _ }) (v := .slice A n c) rfl (by kernel_rfl) (by kernel_rfl) (by kernel_rfl) (fun _ _ _ h => h) (Or.inl ⟨by rfl, fun W hW => ?_⟩) hS ?_
    · (go_simp)
    try simp only [Act.put, List.setIfInBounds_toArray, List.set_cons_zero, List.set_cons_succ]
    refine wpAnyH_take (i := 1) (oi := { dst := some 30, op := _, type := _, pos := _, after := _, guard := _ }) (v := .int .i64 (n : Int)) rfl (by kernel_rfl) (by kernel_rfl) (by kernel_rfl) (fun _ _ _ h => h) (Or.inl ⟨by rfl, fun W hW => ?_⟩) hS ?_
    · (go_simp)
    try simp only [Act.put, List.setIfInBounds_toArray, List.set_cons_zero, List.set_cons_succ]
    refine wpAnyH_take (i := 2) (oi := { dst := some 31, op := _, type := _, pos := _, after := _, guard := _ }) (v := .int .i64 ((n : Int) + 8)) rfl (by kernel_rfl) (by kernel_rfl) (by kernel_rfl) (fun _ _ _ h => h) (Or.inl ⟨by rfl, fun W hW => ?_⟩) hS ?_
    · (go_simp)
    try simp only [Act.put, List.setIfInBounds_toArray, List.set_cons_zero, List.set_cons_succ]
    refine wpAnyH_take (i := 4) (oi := { dst := some 33, op := _, type := _, pos := _, after := _, guard := _ }) (v := .slice A n c) rfl (by kernel_rfl) (by kernel_rfl) (by kernel_rfl) (fun _ _ _ h => h) (Or.inl ⟨by rfl, fun W hW => ?_⟩) hS ?_
    · (go_simp)
    try simp only [Act.put, List.setIfInBounds_toArray, List.set_cons_zero, List.set_cons_succ]
    refine wpAnyH_take (i := 5) (oi := { dst := some 34, op := _, type := _, pos := _, after := _, guard := _ }) (v := .int .i64 (N : Int)) rfl (by kernel_rfl) (by kernel_rfl) (by kernel_rfl) (fun _ _ _ h => h) (Or.inl ⟨by rfl, fun W hW => ?_⟩) hS ?_
    · (go_simp)
    try simp only [Act.put, List.setIfInBounds_toArray, List.set_cons_zero, List.set_cons_succ]
    refine wpAnyH_take (i := 6) (oi := { dst := some 35, op := _, type := _, pos := _, after := _, guard := _ }) (v := .slice A N c) rfl (by kernel_rfl) (by kernel_rfl) (by kernel_rfl) (fun _ _ _ h => h) (Or.inl ⟨by rfl, fun W hW => ?_⟩) hS ?_
    · (go_simp)
    try simp only [Act.put, List.setIfInBounds_toArray, List.set_cons_zero, List.set_cons_succ]
    refine wpAnyH_ready (rs := [3]) (by kernel_rfl) (by simp) ?_
    refine AllReadyH.cons (o := { dst := some 32, op := _, type := _, pos := _, after := _, guard := _ }) rfl (fun K hK => ?_) AllReadyH.nil
    have hmk := HMK.out wc.drew
    go_simp
    have S0 := ((Sep.nil wc).new (blkT wc.heap.size (nums .u8 (List.replicate (n + 8) 0)).toArray 5) (ok := fun k => k = wc.heap.size) (w' := (wc.alloc (.cells (nums .u8 (List.replicate (n + 8) 0)).toArray 5)).drew) ⟨rfl, blk_drew (heap_alloc_new wc _)⟩ (fun k hk => by rw [hk]; exact Nat.le_refl _) (below_drew (below_alloc (Below.refl _ _) _)))
    refine hK.out _ _ S0.below (fun hS2 => ?_)
    clear hK K hS hmk
    have hS := hS2
    clear hS2
    try simp only [Act.put, List.setIfInBounds_toArray, List.set_cons_zero, List.set_cons_succ]
    refine wpAnyH_ready (rs := [7]) (by kernel_rfl) (by simp) ?_
    refine AllReadyH.cons (o := { dst := some 36, op := _, type := _, pos := _, after := _, guard := _ }) rfl (fun K hK => ?_) AllReadyH.nil
    rw [if_pos (by rfl)]
    obtain ⟨W2, hap, hbk, hch⟩ := append_room _ 33 wc.heap.size (n + 8) (List.replicate (n + 8) 0) (sep_blk S0 0 rfl).1 (List.length_replicate ..) A N c (b.take N) ((rdint (Kd.C_below HC.out (below_then H1.out H1.out.size hS))).take_ N (by omega)) (by omega)
    refine wp_append (.tmp 32) (.tmp 35) 33 rfl rfl rfl hap ?_
    have S1 := sep_chg S0 0 rfl hbk hch
    refine hK.out _ _ S1.below (fun hS2 => ?_)
    clear hK K hS hap hbk hch S0
    have hS := hS2
    clear hS2
    try simp only [Act.put, List.setIfInBounds_toArray, List.set_cons_zero, List.set_cons_succ]
    refine wpAnyH_take (i := 8) (oi := { dst := some 6, op := _, type := _, pos := _, after := _, guard := _ }) (v := .slice (some ⟨wc.heap.size, 0, none⟩) N (n + 8)) rfl (by kernel_rfl) (by kernel_rfl) (by kernel_rfl) (fun _ _ _ h => h) (Or.inl ⟨by rfl, fun W hW => ?_⟩) hS ?_
    · (go_simp)
    try simp only [Act.put, List.setIfInBounds_toArray, List.set_cons_zero, List.set_cons_succ]
    refine wpAnyH_done (by kernel_rfl) ?_ _
    obtain ⟨g, hg⟩ : ∃ g, g = wc.heap.size := ⟨_, rfl⟩
    obtain ⟨bs, hbs⟩ : ∃ bs, bs = b.take N := ⟨_, rfl⟩
    obtain ⟨zs, hzs⟩ : ∃ zs : List Int, zs = List.replicate (n + 8 - N) 0 := ⟨_, rfl⟩
    have hbl2 : bs.length = N := by rw [hbs, List.length_take, ← HN.out]; omega
    have hzl : zs.length = n + 8 - N := by rw [hzs, List.length_replicate]
    have S2 := Aside0.mk (show Sep wc [blkT g (nums .u8 (bs ++ zs)).toArray 5] W2 by rw [hg, hbs, hzs]; rw [List.drop_replicate] at S1; exact S1)
    rw [← hg]
    clear S1 hS hg
    have HBS := Aside0.mk hbs
    have HZS := Aside0.mk hzs
    have HBL := Aside0.mk hbl2
    have HZL := Aside0.mk hzl
    clear hbs hzs hbl2 hzl
    have TK := Aside0.mk trivial
    go_wp2_with (first | (go_at_call 48; have t := TK.out; clear TK; refine (NewS S2.out).mono ?_; rintro e w3 ⟨gc, rfl, p1⟩; have S3 := Aside0.mk (show Sep wc [blkT g (nums .u8 (bs ++ zs)).toArray 5, decT gc wc.heap.size [] 0 false] w3 from p1); clear p1 t) | (go_at_call 48; go_must (refine (NewS S3.out).mono ?_; rintro e w4 ⟨gd, rfl, p1⟩; have S4 := Aside0.mk (show Sep wc [blkT g (nums .u8 (bs ++ zs)).toArray 5, decT gc wc.heap.size [] 0 false, decT gd wc.heap.size [] 0 false] w4 from p1); clear p1)) | (go_at_call 49; go_must (refine (WriteS S4.out 1 rfl (some ⟨g, 0, none⟩) N (n + 8) bs ?ha ?hb ?hc (by omega)).mono ?_; (case ha => have h := room_reads (sep_blk S4.out 0 rfl).1 (by rw [List.length_append, HBL.out, HZL.out]; omega) N (by rw [List.length_append, HBL.out]; omega); rw [List.take_left' HBL.out] at h; exact h); (case hb => rw [List.nil_append, HBS.out]; exact fun y hy => HB.out y (List.mem_of_mem_take hy)); (case hc => simp; omega); rintro e w5 ⟨A5, c5, rfl, p1⟩; rw [List.nil_append] at p1 ⊢; obtain ⟨X, hX⟩ : ∃ X, X = (dc bs 0).1 := ⟨_, rfl⟩; obtain ⟨R1, hR1⟩ : ∃ R, R = (dc bs 0).2.1 := ⟨_, rfl⟩; obtain ⟨E1, hE1⟩ : ∃ E, E = (dc bs 0).2.2 := ⟨_, rfl⟩; rw [← hX, ← hR1, ← hE1] at p1; rw [← hX]; have S5 := Aside0.mk (show Sep wc [blkT g (nums .u8 (bs ++ zs)).toArray 5, decT gc wc.heap.size R1 E1 false, decT gd wc.heap.size [] 0 false, rowT k72 TP wc.heap.size (.slice A5 X.length c5) X] w5 from p1); have HX := Aside0.mk hX; have HR1 := Aside0.mk hR1; have HE1 := Aside0.mk hE1; clear p1 hX hR1 hE1)))
    have HY := Aside0.mk (show Y = (dc (R1 ++ b.drop N) E1).1 by rw [HR1.out, HE1.out, HBS.out]; exact HYY.out)
    have HR2 := Aside0.mk (show R2 = (dc (R1 ++ b.drop N) E1).2.1 by rw [HR1.out, HE1.out, HBS.out]; exact HR22.out)
    have HE2 := Aside0.mk (show E2 = (dc (R1 ++ b.drop N) E1).2.2 by rw [HR1.out, HE1.out, HBS.out]; exact HE22.out)
    have HP3 := Aside0.mk (show X ++ P1 = F by rw [HX.out, HBS.out]; exact HP33.out)
    have HXL1 := Aside0.mk (show (X.length + P1.length) * 24 ≤ 140737488355328 by rw [HX.out, HBS.out]; exact HXL0.out)
    have HKB := Aside0.mk (show Bytes (R1 ++ b.drop N) by rw [HR1.out, HBS.out]; exact HKB0.out)
    have HKL := Aside0.mk (show R1.length + (n - N) ≤ 1000000000 by rw [HR1.out, HBS.out]; exact HKL0.out)
    have HKE := Aside0.mk (show 0 ≤ E1 ∧ E1 ≤ 4000000000000000 by rw [HE1.out, HBS.out]; exact HKE0.out)
    clear S2 S3 S4 hcutf
    go_loopw [44] (fun iv wr => ∃ (i : Nat) (rs : List Int), i ≤ N ∧ iv = .int .i64 i ∧ Aside0 (rs.length = N) ∧ Aside0 (Sep wc [blkT g (nums .u8 (rs ++ zs)).toArray 5, decT gc wc.heap.size R1 E1 false, decT gd wc.heap.size [] 0 false, rowT k72 TP wc.heap.size (.slice A5 X.length c5) X] wr)) (fun iv _ => N - (intOf iv).toNat)
    case atStart => exact ⟨0, bs, Nat.zero_le _, rfl, HBL, S5⟩
    case round =>
      clear S5
      obtain ⟨i, rs, hi, rfl, HRL, HS⟩ := hrel
      by_cases hlt : i < N
      · have hd : decide ((i : Int) < (N : Int)) = true := decide_eq_true (by omega)
        have hbk := (sep_blk HS.out 0 rfl).1
        obtain ⟨x0, hcell⟩ : ∃ x0, wr.cell? ⟨g, i, none⟩ = some (.int .u8 x0) := ⟨_, (blk_cell hbk i).trans (nums_cell _ i (by rw [List.length_append]; have := HRL.out; omega))⟩
        have hfr := blk_frozen hbk i
        have HBK := Aside0.mk hbk
        clear hbk
        go_wp2
        go_roundw
        case rel => exact ⟨i + 1, rs.set i 120, by omega, by go_num, ⟨by rw [List.length_set]; exact HRL.out⟩, ⟨by
          have h := sep_set HS.out 0 rfl i (.int .u8 120) _ (blk_set HBK.out i (.int .u8 120))
          rw [nums_set, List.set_append_left i 120 (by rw [HRL.out]; exact hlt)] at h
          exact h⟩⟩
        case measure => simp [intOf]; omega
      · have hd : decide ((i : Int) < (N : Int)) = false := decide_eq_false (by omega)
        have hfull := HFUL.out g N
        go_wp2
        clear hfull
        go_loopw [58] (fun iv wr2 => ∃ (j : Nat) (ys : List Int), j ≤ n + 8 ∧ iv = .int .i64 j ∧ Aside0 (ys.length = n + 8) ∧ Aside0 (∀ l, j ≤ l → N ≤ l → l < n + 8 → ys.getD l 0 = 0) ∧ Aside0 (Sep wc [blkT g (nums .u8 ys).toArray 5, decT gc wc.heap.size R1 E1 false, decT gd wc.heap.size [] 0 false, rowT k72 TP wc.heap.size (.slice A5 X.length c5) X] wr2)) (fun iv _ => n + 8 - (intOf iv).toNat)
        case atStart => exact ⟨0, rs ++ zs, Nat.zero_le _, rfl, ⟨by rw [List.length_append, HRL.out, HZL.out]; omega⟩, ⟨fun l _ hl hl2 => by
          rw [HZS.out, List.getD_eq_getElem?_getD, List.getElem?_append_right (by rw [HRL.out]; exact hl), List.getElem?_replicate]
          split <;> rfl⟩, HS⟩
        case round =>
          clear HS HRL hlt hd
          obtain ⟨j, ys, hj, rfl, HYL, HZ, HS⟩ := hrel
          by_cases hlt : j < n + 8
          · have hd : decide ((j : Int) < ((n + 8 : Nat) : Int)) = true := decide_eq_true (by omega)
            have hd' : decide ((j : Int) < (n : Int) + 8) = true := decide_eq_true (by omega)
            have hbk := (sep_blk HS.out 0 rfl).1
            have hcell : wr.cell? ⟨g, j, none⟩ = some (.int .u8 (ys.getD j 0)) := (blk_cell hbk j).trans (nums_cell ys j (by rw [HYL.out]; exact hlt))
            have hfr := blk_frozen hbk j
            have HBK := Aside0.mk hbk
            clear hbk
            have NXT := Aside0.mk (show (ys.set j 121).length = n + 8 by rw [List.length_set]; exact HYL.out)
            have NZ := Aside0.mk (show ∀ l, j + 1 ≤ l → N ≤ l → l < n + 8 → (ys.set j 121).getD l 0 = 0 from fun l h1 h2 h3 => by
              have := HZ.out l (by omega) h2 h3
              rw [List.getD_eq_getElem?_getD] at this ⊢
              rw [List.getElem?_set_ne (by omega)]
              exact this)
            have NS := Aside0.mk (show Sep wc [blkT g (nums .u8 (ys.set j 121)).toArray 5, decT gc wc.heap.size R1 E1 false, decT gd wc.heap.size [] 0 false, rowT k72 TP wc.heap.size (.slice A5 X.length c5) X] (wr.setCell ⟨g, j, none⟩ (.int .u8 121)) by
              have h := sep_set HS.out 0 rfl j (.int .u8 121) _ (blk_set HBK.out j (.int .u8 121))
              rw [nums_set] at h
              exact h)
            by_cases hge : N ≤ j
            · have hg1 : decide ((N : Int) ≤ (j : Int)) = true := decide_eq_true (by omega)
              rw [HZ.out j (Nat.le_refl _) hge hlt] at hcell
              clear HZ HYL HBK HS
              go_wp2
              go_roundw
              case rel => exact ⟨j + 1, ys.set j 121, by omega, by go_num, NXT, NZ, NS⟩
              case measure => simp [intOf]; omega
            · have hg1 : decide ((N : Int) ≤ (j : Int)) = false := decide_eq_false (by omega)
              obtain ⟨x0, hx0⟩ : ∃ x0, x0 = ys.getD j 0 := ⟨_, rfl⟩
              rw [← hx0] at hcell
              clear HZ HYL HBK HS hx0
              go_wp2
              go_roundw
              case rel => exact ⟨j + 1, ys.set j 121, by omega, by go_num, NXT, NZ, NS⟩
              case measure => simp [intOf]; omega
          · have hd : decide ((j : Int) < ((n + 8 : Nat) : Int)) = false := decide_eq_false (by omega)
            have hd' : decide ((j : Int) < (n : Int) + 8) = false := decide_eq_false (by omega)
            have S6 := HS
            clear HZ HYL hlt hj HS
            have hcf := HCF.out
            have TK1 := Aside0.mk trivial
            go_wp2_with (first | (go_at_call 49; have t := TK1.out; clear TK1; refine (WriteS S6.out 1 rfl AN (n - N) (c - N) (b.drop N) (HRD.out wr (below_then H1.out H1.out.size S6.out.below)) HKB.out HKL.out HKE.out).mono ?_; rintro e w7 ⟨A7, c7, rfl, p1⟩; rw [← HY.out, ← HR2.out, ← HE2.out] at p1; rw [← HY.out]; have S7 := Aside0.mk (show Sep wc [blkT g (nums .u8 ys).toArray 5, decT gc wc.heap.size R2 E2 false, decT gd wc.heap.size [] 0 false, rowT k72 TP wc.heap.size (.slice A5 X.length c5) X, rowT k72 TP wc.heap.size (.slice A7 Y.length c7) Y] w7 from p1); clear p1 t) | (go_at_call 51; go_must (refine (CloseS S7.out 1 rfl).mono ?_; rintro e w8 ⟨A8, c8, rfl, p1⟩; rw [HZ1.out] at p1; rw [HZ1.out]; have S8 := Aside0.mk (show Sep wc [blkT g (nums .u8 ys).toArray 5, decT gc wc.heap.size [] E2 true, decT gd wc.heap.size [] 0 false, rowT k72 TP wc.heap.size (.slice A5 X.length c5) X, rowT k72 TP wc.heap.size (.slice A7 Y.length c7) Y, rowT k72 TP wc.heap.size (.slice A8 Z1.length c8) Z1] w8 from p1); clear p1; have hs8 := S8.out.below.size; obtain ⟨ok8, hR8, hf8, hN8⟩ := S8.out.row 4 rfl; have HR8 := Aside0.mk hR8; have HF8 := Aside0.mk hf8; have HN8 := Aside0.mk hN8; clear hR8 hf8 hN8; obtain ⟨_, _, he8, -, hC8⟩ := S8.out.reads 5 rfl; cases he8; have HC8 := Aside0.mk hC8; clear hC8)) | (at_builtin; go_must (refine Kd.R_append_rows k72 (Rr := k72.K w8) (w0 := w8) wc.heap.size rfl (.tmp 79) (.tmp 81) 62 TP (.agg #[.int .i32 0, .int .i64 0, .int .i64 0]) 24 rfl Try.underlying62 info_P rfl (by decide) (by decide) (.slice A7 Y.length c7) Y Z1 A8 Z1.length c8 ok8 (fun _ => False) rfl rfl HR8.out HC8.out (fun x cs h => k72_KM x cs h) (fun _ h => h.elim) HF8.out (Below.refl _ _) hs8 HYL1.out ?ka)))
            case ka =>
              intro v9 w9 hR9 hb9 hg9 hat9
              have hS9 := HN8.out v9 w9 _ hR9 hg9
              rw [← HP1.out] at hS9
              have hS9' : Sep wc [blkT g (nums .u8 ys).toArray 5, decT gc wc.heap.size [] E2 true, decT gd wc.heap.size [] 0 false, rowT k72 TP wc.heap.size (.slice A5 X.length c5) X, rowT k72 TP wc.heap.size v9 P1, rowT k72 TP wc.heap.size (.slice A8 Z1.length c8) Z1] w9 := hS9
              obtain ⟨A9, c9, rfl, -, -⟩ := hS9'.reads 4 rfl
              have S9 := Aside0.mk hS9'
              clear hS9 hS9' hR9 hb9 hg9 hat9 HR8 HF8 HN8 HC8 S6 S7 S8 hcf
              go_wp2_with (first | (go_at_call 49; go_must (refine (WriteS S9.out 2 rfl A n c b (rdint (Kd.C_below HC.out (below_then H1.out H1.out.size S9.out.below))) (by rw [List.nil_append]; exact HB.out) (by simp; omega) (by omega)).mono ?_; rintro e w10 ⟨A10, c10, rfl, p1⟩; rw [List.nil_append] at p1 ⊢; rw [← HV.out, ← HR3.out, ← HE3.out] at p1; rw [← HV.out]; have S10 := Aside0.mk (show Sep wc [blkT g (nums .u8 ys).toArray 5, decT gc wc.heap.size [] E2 true, decT gd wc.heap.size R3 E3 false, rowT k72 TP wc.heap.size (.slice A5 X.length c5) X, rowT k72 TP wc.heap.size (.slice A9 P1.length c9) P1, rowT k72 TP wc.heap.size (.slice A8 Z1.length c8) Z1, rowT k72 TP wc.heap.size (.slice A10 V.length c10) V] w10 from p1); clear p1)) | (go_at_call 51; go_must (refine (CloseS S10.out 2 rfl).mono ?_; rintro e w11 ⟨A11, c11, rfl, p1⟩; rw [← HZ2.out] at p1; rw [← HZ2.out]; have S11 := Aside0.mk (show Sep wc [blkT g (nums .u8 ys).toArray 5, decT gc wc.heap.size [] E2 true, decT gd wc.heap.size [] E3 true, rowT k72 TP wc.heap.size (.slice A5 X.length c5) X, rowT k72 TP wc.heap.size (.slice A9 P1.length c9) P1, rowT k72 TP wc.heap.size (.slice A8 Z1.length c8) Z1, rowT k72 TP wc.heap.size (.slice A10 V.length c10) V, rowT k72 TP wc.heap.size (.slice A11 Z2.length c11) Z2] w11 from p1); clear p1; have hs11 := S11.out.below.size; obtain ⟨ok11, hR11, hf11, hN11⟩ := S11.out.row 6 rfl; have HR11 := Aside0.mk hR11; have HF11 := Aside0.mk hf11; have HN11 := Aside0.mk hN11; clear hR11 hf11 hN11; obtain ⟨_, _, he11, -, hC11⟩ := S11.out.reads 7 rfl; cases he11; have HC11 := Aside0.mk hC11; clear hC11)) | (at_builtin; go_must (refine Kd.R_append_rows k72 (Rr := k72.K w11) (w0 := w11) wc.heap.size rfl (.tmp 85) (.tmp 87) 62 TP (.agg #[.int .i32 0, .int .i64 0, .int .i64 0]) 24 rfl Try.underlying62 info_P rfl (by decide) (by decide) (.slice A10 V.length c10) V Z2 A11 Z2.length c11 ok11 (fun _ => False) rfl rfl HR11.out HC11.out (fun x cs h => k72_KM x cs h) (fun _ h => h.elim) HF11.out (Below.refl _ _) hs11 HVL1.out ?kb)))
              case kb =>
                intro v12 w12 hR12 hb12 hg12 hat12
                have hS12 := HN11.out v12 w12 _ hR12 hg12
                rw [HP2.out] at hS12
                have hS12' : Sep wc [blkT g (nums .u8 ys).toArray 5, decT gc wc.heap.size [] E2 true, decT gd wc.heap.size [] E3 true, rowT k72 TP wc.heap.size (.slice A5 X.length c5) X, rowT k72 TP wc.heap.size (.slice A9 P1.length c9) P1, rowT k72 TP wc.heap.size (.slice A8 Z1.length c8) Z1, rowT k72 TP wc.heap.size v12 F, rowT k72 TP wc.heap.size (.slice A11 Z2.length c11) Z2] w12 := hS12
                obtain ⟨A12, c12, rfl, hc12, -⟩ := hS12'.reads 6 rfl
                have S12 := Aside0.mk hS12'
                clear hS12 hS12' hR12 hb12 hg12 hat12 HR11 HF11 HN11 HC11 S9 S10 S11
                have hs12 := S12.out.below.size
                obtain ⟨ok12, hR12, hf12, hN12⟩ := S12.out.row 3 rfl
                have HR12 := Aside0.mk hR12
                have HF12 := Aside0.mk hf12
                have HN12 := Aside0.mk hN12
                clear hR12 hf12 hN12
                obtain ⟨_, _, he12, -, hC12⟩ := S12.out.reads 4 rfl
                cases he12
                have HC12 := Aside0.mk hC12
                clear hC12
                go_wp2_with (at_builtin; go_must (refine Kd.R_append_rows k72 (Rr := k72.K w12) (w0 := w12) wc.heap.size rfl (.tmp 89) (.tmp 90) 62 TP (.agg #[.int .i32 0, .int .i64 0, .int .i64 0]) 24 rfl Try.underlying62 info_P rfl (by decide) (by decide) (.slice A5 X.length c5) X P1 A9 P1.length c9 ok12 (fun _ => False) rfl rfl HR12.out HC12.out (fun x cs h => k72_KM x cs h) (fun _ h => h.elim) HF12.out (Below.refl _ _) hs12 HXL1.out ?kc))
                case kc =>
                  intro v13 w13 hR13 hb13 hg13 hat13
                  have hS13 := HN12.out v13 w13 _ hR13 hg13
                  rw [HP3.out] at hS13
                  have hS13' : Sep wc [blkT g (nums .u8 ys).toArray 5, decT gc wc.heap.size [] E2 true, decT gd wc.heap.size [] E3 true, rowT k72 TP wc.heap.size v13 F, rowT k72 TP wc.heap.size (.slice A9 P1.length c9) P1, rowT k72 TP wc.heap.size (.slice A8 Z1.length c8) Z1, rowT k72 TP wc.heap.size (.slice A12 F.length c12) F, rowT k72 TP wc.heap.size (.slice A11 Z2.length c11) Z2] w13 := hS13
                  obtain ⟨A13, c13, rfl, hc13, hC13⟩ := hS13'.reads 3 rfl
                  obtain ⟨_, _, he14, -, hC14⟩ := hS13'.reads 6 rfl
                  cases he14
                  have S13 := Aside0.mk hS13'
                  have HC13 := Aside0.mk hC13
                  have HC14 := Aside0.mk hC14
                  clear hS13 hS13' hR13 hb13 hg13 hat13 HR12 HF12 HN12 HC12 hC13 hC14 S12
                  go_wp2_with (first | (go_at_call 41; go_must (refine (SameP w13 A13 A12 c13 c12 F.length F rfl HFL.out HC13.out hc13 HC14.out hc12).mono ?_; rintro e w14 ⟨rfl, p1⟩; have B14 := Aside0.mk (below_then H1.out H1.out.size (S13.out.later p1.below).below); clear p1)) | (go_at_call 49; go_must (refine (WriteNil w14 A n c).mono ?_; rintro e w15 ⟨rfl, rfl⟩)) | (go_at_call 51; go_must (refine (CloseNil w14).mono ?_; rintro e w15 ⟨rfl, rfl⟩)) | (go_at_call 50; go_must (refine (PendingNil w14).mono ?_; rintro e w15 ⟨rfl, rfl⟩)))
                  go_ret
                  exact ⟨rfl, B14.out⟩
end Go.Proofs.Ytpebemljgeammaa.Ko
