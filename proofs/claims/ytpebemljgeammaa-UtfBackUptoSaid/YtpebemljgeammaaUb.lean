/-
  UtfBack.
-/
import Derived.Deep.RegionHeld3
import Derived.Test.YtpebemljgeammaaBk
import Derived.Test.YtpebemljgeammaaSx
import Derived.Test.YtpebemljgeammaaUn
import Derived.Test.YtpebemljgeammaaUk
import Derived.BigQuiet
namespace Go.Proofs.Ytpebemljgeammaa.Ub
set_option linter.unusedVariables false
set_option linter.unusedSimpArgs false
open Go.RowKit Go.Proofs.YtpebemljgeammaaW.PrintWords Go.Proofs.Ytpebemljgeammaa.Hp Go.Proofs.Ytpebemljgeammaa.Fm Go.Proofs.Ytpebemljgeammaa.En Go.Proofs.Ytpebemljgeammaa.Ud Go.Proofs.Ytpebemljgeammaa.Ux Go.Proofs.Ytpebemljgeammaa.Uk Go.Proofs.Ytpebemljgeammaa.Rt Go.Proofs.Ytpebemljgeammaa.Bk Go.Proofs.Ytpebemljgeammaa.Uh
open Go.Proofs.Ytpebemljgeammaa.Un (KI)
open Go.Proofs.Ytpebemljgeammaa.PUtfDecodes

theorem EncR (w : World) (A : Option Addr) (n c : Nat) (l : List Int) (m : Nat) (hn : n = l.length) (hb : KI.C w A n l) (hc : n ≤ c) (hl : n * 4 ≤ 140737488351232) (hm : m = (enc l).length) :
    Calls Try.prog 46 #[.slice A n c] w fun e w' => ∃ A' c', e = .returned (.slice A' m c') ∧ m ≤ c' ∧ KB.C w' A' m (enc l) ∧ Below w.heap.size w w' := by
  refine (Un.EncP w A n c l hn hb hc hl).mono ?_
  rintro e w' ⟨v, rfl, h2, h3⟩
  obtain ⟨A', c', rfl, hc', hC⟩ := Kd.R_reads h2
  rw [← hm] at hc' hC ⊢
  exact ⟨A', c', rfl, hc', hC, h3⟩
theorem rune_at {l : List Int} {P : List S72} (h : P.map (·.f0) = l.map fixr) (k : Nat) (hk : k < l.length) : ∃ p, P[k]? = some p ∧ p.f0 = fixr l[k] := by
  have h1 : P.length = l.length := by have := congrArg List.length h; simpa using this
  have h2 := congrArg (·[k]?) h
  simp only [List.getElem?_map, List.getElem?_eq_getElem hk, List.getElem?_eq_getElem (show k < P.length by omega), Option.map_some, Option.some.injEq] at h2
  exact ⟨P[k]'(by omega), List.getElem?_eq_getElem _, h2⟩
theorem ValQ (x : Int) (b : Bool) (h : PUtfDecodes.utf_Valid.f x = some b) (w : World) : Calls Try.prog 44 #[.int .i32 x] w fun e w' => e = .returned (.bool b) ∧ ∃ m, w' = w.drewN m :=
  (PUtfDecodes.utf_Valid.calls x b w h).mono fun _ _ hd => ⟨hd.1, hd.2.out⟩
theorem info_32 : (Try.prog.info? 21).map (fun i => (i.zero, i.size, i.bytes)) = some (some (.int .i32 0), 1, 4) := by kernel_rfl
theorem lit_eq {a : List Int} (ha : Bytes a) : ((strOfNums a).toList == [239, 191, 189]) = decide (a = [239, 191, 189]) := by
  have e : ([239, 191, 189] : List UInt8) = (strOfNums [239, 191, 189]).data.toList := by decide
  rw [e, ByteArray.toList_eq, Bool.eq_iff_iff]
  simp only [beq_iff_eq, decide_eq_true_eq]
  constructor
  · intro h
    exact str_inj ha (by intro x hx; simp at hx; omega) (ByteArray.ext (Array.ext' h))
  · intro h; rw [h]
theorem str_dec {a b : List Int} (ha : Bytes a) (hb : Bytes b) : ((strOfNums a).toList == (strOfNums b).toList) = decide (a = b) := by
  rw [Bool.eq_iff_iff]
  simp only [beq_iff_eq, decide_eq_true_eq]
  constructor
  · intro h
    rw [ByteArray.toList_eq, ByteArray.toList_eq] at h
    exact str_inj ha hb (ByteArray.ext (Array.ext' h))
  · intro h; rw [h]
theorem intC {w : World} {k : IntKind} {A : Option Addr} {n : Nat} {xs : List Int} (h : (Kd.int k).C w A n xs) (j : Nat) (hj : j < xs.length) : ∃ ad, A = some ad ∧ w.cell? (ad.add j) = some (.int k xs[j]) := by
  obtain ⟨ad, e, hc⟩ := Sn.rd_at (rdint h) j (by rw [← h.1]; exact hj)
  refine ⟨ad, e, ?_⟩
  rw [hc, List.getD_eq_getElem?_getD, List.getElem?_eq_getElem hj]
  rfl

set_option maxRecDepth 100000 in
set_option maxHeartbeats 4000000 in
theorem back (w : World) (A : Option Addr) (l : List Int) (c : Nat) (hC : KI.C w A l.length l) (hc : l.length ≤ c) (hw : ∀ x, x ∈ l → (Lit.int .i32 x).wf = true) (hb : Od.sumB (fun _ => 1) l ≤ 1048576)
    (A2 : Option Addr) (b : List Int) (c2 : Nat) (hC2 : KB.C w A2 b.length b) (hc2 : b.length ≤ c2) (hw2 : ∀ y, y ∈ b → (Lit.int .u8 y).wf = true) (hb2 : Od.sumB (fun _ => 1) b ≤ 1048576) :
    Calls Try.prog 10 #[.slice A l.length c, .slice A2 b.length c2] w fun e w' => e = .returned (.bool true) ∧ Below w.heap.size w w' := by
  have hl := Nat.le_trans (Od.sumB_len (fun _ => Nat.le_refl _) l) hb
  have hbl := Nat.le_trans (Od.sumB_len (fun _ => Nat.le_refl _) b) hb2
  have hBY := wf_bytes hw2
  have hel := enc_len l
  obtain ⟨P, hP⟩ : ∃ P, P = full (enc l) := ⟨_, rfl⟩
  have hPm : P.map (·.f0) = l.map fixr := by rw [hP, full_ful]; exact ful_enc l 0
  have hPl : l.length = P.length := by have := congrArg List.length hPm; simpa using this.symm
  obtain ⟨n, hn⟩ : ∃ n, n = l.length := ⟨_, rfl⟩
  obtain ⟨m, hm⟩ : ∃ m, m = (enc l).length := ⟨_, rfl⟩
  obtain ⟨nb, hnb⟩ : ∃ nb, nb = b.length := ⟨_, rfl⟩
  obtain ⟨L, hL⟩ : ∃ L, L = full b := ⟨_, rfl⟩
  have hLl : L.length ≤ b.length := by rw [hL]; exact full_len b
  obtain ⟨q, hq⟩ : ∃ q, q = L.length := ⟨_, rfl⟩
  rw [← hn] at hC hc hl hel hPl ⊢
  rw [← hnb] at hC2 hc2 hbl hLl ⊢
  rw [← hm] at hel
  rw [← hq] at hLl
  obtain ⟨hel1, hel2⟩ := hel
  have HC := Aside0.mk hC
  have HN := Aside0.mk hn
  have HM := Aside0.mk hm
  have HP := Aside0.mk hP.symm
  have HPM := Aside0.mk hPm
  have HPL := Aside0.mk hPl
  have HC2 := Aside0.mk hC2
  have HB := Aside0.mk hBY
  have HNB := Aside0.mk hnb
  have HL := Aside0.mk hL
  have HQ := Aside0.mk hq
  have HEB := Aside0.mk (enc_byte l)
  clear hC hw hb hC2 hw2 hb2 hBY hP hPm hPl hn hm hnb hL hq
  go_enter Try.func10, Try.ntmps10
  go_wp2_with (first | (go_at_call 40; go_must (refine (Ug.fixed w).mono ?_; rintro e w1 ⟨rfl, p1⟩; have P1 := Aside0.mk p1; have TK := Aside0.mk p1; clear p1)) | (go_at_call 46; go_must (refine (EncR w1 A n c l m HN.out (Kd.C_below HC.out P1.out) hc (by omega) HM.out).mono ?_; rintro e w2 ⟨A3, c3, rfl, p1, p2, p3⟩; have Q1 := Aside0.mk p1; have Q2 := Aside0.mk p2; have B2 := Aside0.mk (below_then P1.out P1.out.size p3); clear p1 p2 p3)) | (go_at_call 42; have t0 := TK.out; refine (DecP w2 A3 m c3 (enc l) P n Q2.out HEB.out (by omega) HP.out HPL.out).mono ?_; rintro e w3 ⟨A4, c4, rfl, p1, p2, p3⟩; have R1 := Aside0.mk p1; have R2 := Aside0.mk p2; have B3 := Aside0.mk (below_then B2.out B2.out.size p3); clear p1 p2 p3 t0 TK))
  go_loopw [24] (fun i wr => ∃ k : Nat, k ≤ n ∧ i = .int .i64 k ∧ Aside0 (Below w3.heap.size w3 wr)) (fun i _ => n - (intOf i).toNat)
  case atStart => exact ⟨0, Nat.zero_le _, rfl, ⟨Below.refl _ _⟩⟩
  case round =>
    obtain ⟨k, hk, rfl, HD⟩ := hrel
    have HW := Aside0.mk (below_then B3.out B3.out.size HD.out)
    by_cases hlt : k < n
    · have hd : decide (k < n) = true := by simpa using hlt
      have hkl : k < l.length := by have := HN.out; omega
      obtain ⟨ad, rfl, hcell⟩ := intC (Kd.C_below HC.out HW.out) k hkl
      obtain ⟨p, hp, hpf⟩ := rune_at HPM.out k hkl
      obtain ⟨ad4, rfl, z0, -, -⟩ := Ug.pts_at (Kd.C_below R2.out HD.out) k hlt p hp
      rw [hpf] at z0
      obtain ⟨x, hx⟩ : ∃ x, x = l[k] := ⟨_, rfl⟩
      rw [← hx] at hcell z0
      clear hp hpf hx hkl
      cases hv : vld x with
      | true =>
        have hfx : fixr x = x := by unfold fixr; rw [if_pos hv]
        rw [hfx] at z0
        have hne : (x != x) = false := by simp
        clear hv hfx
        go_wp2
        go_quiet (fail)
        have HD2 := Aside0.mk (below_then HD.out HD.out.size ((Drawn0.refl wr).step nq).below)
        clear z0 hcell
        generalize wr.drewN nq = W at HD2 ⊢
        go_wp2
        go_roundw
        case rel => exact ⟨k + 1, by omega, by go_num, HD2⟩
        case measure => simp [intOf]; omega
      | false =>
        have hfx : fixr x = 65533 := by unfold fixr; rw [if_neg (by rw [hv]; decide)]
        rw [hfx] at z0
        have hne : ((65533 : Int) != x) = true := by
          rw [bne_iff_ne]
          intro h
          rw [← h] at hv
          cases hv
        have HV := Aside0.mk (show PUtfDecodes.utf_Valid.f x = some false by rw [valid_pure, hv])
        clear hv hfx
        go_wp2
        go_quiet (first | (go_at_call 44; exact Calls.quiet_of (ValQ x false HV.out _)))
        have HD2 := Aside0.mk (below_then HD.out HD.out.size ((Drawn0.refl wr).step nq).below)
        clear z0 hcell
        generalize wr.drewN nq = W at HD2 ⊢
        go_wp2
        go_roundw
        case rel => exact ⟨k + 1, by omega, by go_num, HD2⟩
        case measure => simp [intOf]; omega
    · have hd : decide (k < n) = false := by simpa using hlt
      have TK2 := Aside0.mk (Kd.C_below HC2.out HW.out)
      go_wp2_with (first | (go_at_call 42; go_must (refine (DecP wr A2 nb c2 b L q TK2.out HB.out (by omega) HL.out.symm HQ.out).mono ?_; rintro e w5 ⟨A6, c6, rfl, p1, p2, p3⟩; have R6 := Aside0.mk p1; have R7 := Aside0.mk p2; have B5 := Aside0.mk (below_then HW.out HW.out.size p3); clear p1 p2 p3)))
      have S0 := Aside0.mk ((Sep.start (Below.refl _ w5)).empty KI 21 w5.heap.size)
      go_loopw [7, 8, 9, 58] (fun av wv rv i wr => ∃ k a : Nat, k ≤ q ∧ i = .int .i64 k ∧ a ≤ nb ∧ av = .int .i64 a ∧ wv = .bool ((L.take k).all (okp b)) ∧ Aside0 (L.drop k = ful (b.drop a) a) ∧ Aside0 (Sep w5 [rowT KI 21 w5.heap.size rv ((L.take k).map (·.f0))] wr)) (fun _ _ _ i _ => q - (intOf i).toNat)
      case atStart => exact ⟨0, 0, Nat.zero_le _, rfl, Nat.zero_le _, rfl, rfl, ⟨by rw [HL.out]; rfl⟩, ⟨S0.out⟩⟩
      case round =>
        obtain ⟨k, a, hk, rfl, ha, rfl, rfl, HD, HS⟩ := hrel
        by_cases hlt : k < q
        · have hd : decide (k < q) = true := by simpa using hlt
          obtain ⟨r, wd, hLk, hw1, hw4, haw, hvr, hnx⟩ := ful_step b HB.out L k a (by have := HNB.out; omega) HD.out (by have := HQ.out; omega)
          obtain ⟨ad6, rfl, z0, z1, z2⟩ := Ug.pts_at (Kd.C_below R7.out HS.out.below) k hlt _ hLk
          have hpc : piece b (⟨r, a, wd⟩ : S72) = (b.drop a).take wd := by unfold piece; simp
          obtain ⟨Wf, hWf⟩ : ∃ Wf, Wf = (L.take k).all (okp b) := ⟨_, rfl⟩
          have htk : L.take (k + 1) = L.take k ++ [(⟨r, a, wd⟩ : S72)] := by rw [List.take_add_one, hLk]; rfl
          have hall : (L.take (k + 1)).all (okp b) = (Wf && okp b (⟨r, a, wd⟩ : S72)) := by rw [htk, List.all_append, hWf]; simp
          have hmap : (L.take (k + 1)).map (·.f0) = (L.take k).map (·.f0) ++ [r] := by rw [htk, List.map_append]; rfl
          rw [← hWf]
          obtain ⟨rs, hrs⟩ : ∃ rs, rs = (L.take k).map (·.f0) := ⟨_, rfl⟩
          have hml : rs.length ≤ 1048576 := by rw [hrs, List.length_map, List.length_take]; omega
          rw [← hrs] at HS hmap
          have haw' : a + wd ≤ nb := by have := HNB.out; omega
          have hne1 : ((a : Int) != (a : Int)) = false := by simp
          have hne2 : decide ((wd : Int) < 1) = false := by simp; omega
          have hne3 : decide ((wd : Int) > 4) = false := by simp; omega
          have hne4 : decide ((4 : Int) < (wd : Int)) = false := by simp; omega
          have HV := Aside0.mk (show PUtfDecodes.utf_Valid.f r = some true by rw [valid_pure, hvr])
          have HNX := Aside0.mk hnx
          have HALL := Aside0.mk hall
          have HMAP := Aside0.mk hmap
          have HPC := Aside0.mk hpc
          have HML := Aside0.mk (show (rs.length + 1) * 4 ≤ 140737488355328 by omega)
          clear hLk hpc hWf htk hall hmap hnx hvr hml haw hrs
          have HS0 := HS.out
          obtain ⟨WA, hWA⟩ : ∃ WA, WA = wr.alloc (.cells #[.int .i32 r, .int .i64 a, .int .i64 wd] TP) := ⟨_, rfl⟩
          have hblk : WA.heap[wr.heap.size]? = some (.cells #[.int .i32 r, .int .i64 a, .int .i64 wd] TP (0, 0)) := by rw [hWA]; exact heap_alloc_new wr _
          have HBLK := Aside0.mk hblk
          have HSA := Aside0.mk (show Sep w5 [rowT KI 21 w5.heap.size u9 rs] WA by rw [hWA]; exact HS.out.later (below_alloc (Below.refl _ _) _))
          have HWA := Aside0.mk hWA
          have hlt0 : wr.heap.size < WA.heap.size := blk_lt hblk
          clear hblk hWA
          cases Wf with
          | false =>
            go_wp2_with (first | (go_at_call 44; go_must (rw [← HWA.out]; refine (PUtfDecodes.utf_Valid.calls r true WA HV.out).mono ?_; rintro e w6 ⟨rfl, p1⟩; have hb6 := (p1.below.block _ hlt0).trans HBLK.out; have y0 : w6.cell? ⟨wr.heap.size, 0, none⟩ = some (.int .i32 r) := (by simp [World.cell?, hb6]); have y2 : w6.cell? ⟨wr.heap.size, 2, none⟩ = some (.int .i64 wd) := (by simp [World.cell?, hb6]); have HS6 := Aside0.mk (HSA.out.later p1.below); clear p1 hb6; obtain ⟨ok1, hR1, hf1, hN1⟩ := HS6.out.row 0 rfl; have hs6 := HS6.out.below.size; have HR1 := Aside0.mk hR1; have HF1 := Aside0.mk hf1; have HN1 := Aside0.mk hN1; clear hR1 hf1 hN1)) | (at_builtin; go_must (refine Kd.R_append KI (w0 := w6) w5.heap.size rfl (.tmp 103) (.tmp 106) 50 21 (.int .i32 0) 4 rfl Try.underlying50 info_32 rfl (by decide) (by decide) u9 rs r [.int .i32 r] ok1 (fun _ => False) rfl rfl rfl (fun _ h => h.elim) HF1.out HR1.out (Below.refl _ _) hs6 HML.out ?hh)))
            case hh =>
              intro v1 w7 hR7 hb7 hg7 hat7
              have hS7 := HN1.out v1 w7 _ hR7 hg7
              rw [← HMAP.out] at hS7
              have HS7 := Aside0.mk hS7
              clear hS7 hR7 hb7 hg7 hat7 HR1 HF1 HN1
              go_wp2
              go_roundw
              case rel => exact ⟨k + 1, a + wd, by omega, by go_num, haw', by go_num, by rw [HALL.out]; rfl, HNX, HS7⟩
              case measure => simp [intOf]; omega
          | true =>
            by_cases hr : r = 65533
            · obtain ⟨i8, hi8, hz8⟩ := Option.map_eq_some_iff.1 info_8
              simp only [Prod.mk.injEq] at hz8
              obtain ⟨A5, hA5⟩ : ∃ A5, A5 = (if c2 = a then A2 else A2.map (·.add (a * 1))) := ⟨_, rfl⟩
              have hcut : ∀ W : World, (Instr.slice 33 (.slice A2 nb c2) (some (.int .i64 (a : Int))) (some (.int .i64 ((a : Int) + (wd : Int)))) none).run Try.prog W = .ok (.slice A5 wd (c2 - a)) W := by
                intro W
                have := cut_mid (P := Try.prog) 33 5 .i64 .i64 Try.underlying33 hi8 1 hz8.2.1 A2 nb c2 (a : Int) ((a : Int) + (wd : Int)) (by omega) (by omega) (by omega) hc2 W
                have e : ((a : Int) + (wd : Int)).toNat - (a : Int).toNat = wd := by omega
                rw [e] at this
                rw [hA5]
                simpa using this
              obtain ⟨pc, hpe⟩ : ∃ pc, pc = (b.drop a).take wd := ⟨_, rfl⟩
              have HRB := Aside0.mk (show ∀ W : World, Below w.heap.size w W → ReadsInt W .u8 A5 wd pc by
                intro W hW
                have h1 := ((rdint (Kd.C_below HC2.out hW)).drop_ a ha hc2).take_ wd (by omega)
                have e5 : (if c2 = a then A2 else A2.map (·.add a)) = A5 := by rw [hA5]; simp
                rw [e5, ← hpe] at h1
                exact h1)
              have HPE := Aside0.mk hpe
              obtain ⟨sp, hsp⟩ : ∃ sp, sp = strOfNums pc := ⟨_, rfl⟩
              have hpB : Bytes pc := by rw [hpe]; exact fun y hy => HB.out y (List.mem_of_mem_drop (List.mem_of_mem_take hy))
              obtain ⟨bb, hbb⟩ : ∃ bb, bb = decide (pc = [239, 191, 189]) := ⟨_, rfl⟩
              have hflag : (sp.toList == [239, 191, 189]) = bb := by rw [hsp, hbb]; exact lit_eq hpB
              have HOK := Aside0.mk (show okp b (⟨r, a, wd⟩ : S72) = bb by unfold okp; rw [HPC.out, ← hpe, hr, hbb]; rfl)
              have HSP := Aside0.mk hsp
              clear hA5 hi8 hz8 hpe hsp hbb hpB
              subst hr
              go_wp2_with (first | (go_at_call 44; go_must (rw [← HWA.out]; refine (PUtfDecodes.utf_Valid.calls 65533 true WA HV.out).mono ?_; rintro e w6 ⟨rfl, p1⟩; have hb6 := (p1.below.block _ hlt0).trans HBLK.out; have y0 : w6.cell? ⟨wr.heap.size, 0, none⟩ = some (.int .i32 65533) := (by simp [World.cell?, hb6]); have y2 : w6.cell? ⟨wr.heap.size, 2, none⟩ = some (.int .i64 wd) := (by simp [World.cell?, hb6]); have HS6 := Aside0.mk (HSA.out.later p1.below); clear p1 hb6; have hcv := Sx.reads_string (P := Try.prog) (c := c2 - a) Try.underlying33 Try.underlying5 Try.underlying9 (HRB.out w6 (below_then B5.out B5.out.size HS6.out.below)); rw [← HSP.out] at hcv; obtain ⟨ok1, hR1, hf1, hN1⟩ := HS6.out.row 0 rfl; have hs6 := HS6.out.below.size; have HR1 := Aside0.mk hR1; have HF1 := Aside0.mk hf1; have HN1 := Aside0.mk hN1; clear hR1 hf1 hN1)) | (at_builtin; go_must (refine Kd.R_append KI (w0 := w6) w5.heap.size rfl (.tmp 103) (.tmp 106) 50 21 (.int .i32 0) 4 rfl Try.underlying50 info_32 rfl (by decide) (by decide) u9 rs 65533 [.int .i32 65533] ok1 (fun _ => False) rfl rfl rfl (fun _ h => h.elim) HF1.out HR1.out (Below.refl _ _) hs6 HML.out ?hh)))
              case hh =>
                intro v1 w7 hR7 hb7 hg7 hat7
                have hS7 := HN1.out v1 w7 _ hR7 hg7
                rw [← HMAP.out] at hS7
                have HS7 := Aside0.mk hS7
                clear hS7 hR7 hb7 hg7 hat7 HR1 HF1 HN1
                go_wp2
                go_roundw
                case rel => exact ⟨k + 1, a + wd, by omega, by go_num, haw', by go_num, by rw [HALL.out, HOK.out]; rfl, HNX, HS7⟩
                case measure => simp [intOf]; omega
            · have hne5 : (r != 65533) = true := by simpa using hr
              have HOK := Aside0.mk (show okp b (⟨r, a, wd⟩ : S72) = true by unfold okp; simp only; rw [hne5]; rfl)
              clear hr
              go_wp2_with (first | (go_at_call 44; go_must (rw [← HWA.out]; refine (PUtfDecodes.utf_Valid.calls r true WA HV.out).mono ?_; rintro e w6 ⟨rfl, p1⟩; have hb6 := (p1.below.block _ hlt0).trans HBLK.out; have y0 : w6.cell? ⟨wr.heap.size, 0, none⟩ = some (.int .i32 r) := (by simp [World.cell?, hb6]); have y2 : w6.cell? ⟨wr.heap.size, 2, none⟩ = some (.int .i64 wd) := (by simp [World.cell?, hb6]); have HS6 := Aside0.mk (HSA.out.later p1.below); clear p1 hb6; obtain ⟨ok1, hR1, hf1, hN1⟩ := HS6.out.row 0 rfl; have hs6 := HS6.out.below.size; have HR1 := Aside0.mk hR1; have HF1 := Aside0.mk hf1; have HN1 := Aside0.mk hN1; clear hR1 hf1 hN1)) | (at_builtin; go_must (refine Kd.R_append KI (w0 := w6) w5.heap.size rfl (.tmp 103) (.tmp 106) 50 21 (.int .i32 0) 4 rfl Try.underlying50 info_32 rfl (by decide) (by decide) u9 rs r [.int .i32 r] ok1 (fun _ => False) rfl rfl rfl (fun _ h => h.elim) HF1.out HR1.out (Below.refl _ _) hs6 HML.out ?hh)))
              case hh =>
                intro v1 w7 hR7 hb7 hg7 hat7
                have hS7 := HN1.out v1 w7 _ hR7 hg7
                rw [← HMAP.out] at hS7
                have HS7 := Aside0.mk hS7
                clear hS7 hR7 hb7 hg7 hat7 HR1 HF1 HN1
                go_wp2
                go_roundw
                case rel => exact ⟨k + 1, a + wd, by omega, by go_num, haw', by go_num, by rw [HALL.out, HOK.out]; rfl, HNX, HS7⟩
                case measure => simp [intOf]; omega
        · have hd : decide (k < q) = false := by simpa using hlt
          obtain rfl : k = q := by omega
          have hLk : L.length = k := HQ.out.symm
          have hd2 := HD.out
          rw [← hLk] at hd2
          have hab : a = nb := by rw [HNB.out]; exact ful_end b L a (by rw [← HNB.out]; exact ha) hd2
          have htk : L.take k = L := List.take_of_length_le (by omega)
          rw [htk] at HS
          have hwh := whole b HB.out
          rw [← HL.out] at hwh
          rw [htk, hwh]
          obtain ⟨rs, hrs⟩ : ∃ rs, rs = L.map (·.f0) := ⟨_, rfl⟩
          rw [← hrs] at HS ⊢
          have hrl : rs.length ≤ 1048576 := by rw [hrs, List.length_map]; omega
          obtain ⟨bb, hbb⟩ : ∃ bb, bb = decide (enc rs = b) := ⟨_, rfl⟩
          rw [← hbb]
          subst hab
          obtain ⟨A8, c8, rfl, hc8, hC8⟩ := HS.out.reads 0 rfl
          obtain ⟨rn, hrn⟩ : ∃ rn, rn = rs.length := ⟨_, rfl⟩
          rw [← hrn] at hC8 hc8 HS hrl ⊢
          obtain ⟨em, hem⟩ : ∃ em, em = (enc rs).length := ⟨_, rfl⟩
          obtain ⟨s1, hs1⟩ : ∃ s1, s1 = strOfNums (enc rs) := ⟨_, rfl⟩
          obtain ⟨s2, hs2⟩ : ∃ s2, s2 = strOfNums b := ⟨_, rfl⟩
          have HC8 := Aside0.mk hC8
          have HRN := Aside0.mk hrn
          have HEM := Aside0.mk hem
          have HBW := Aside0.mk (below_then B5.out B5.out.size HS.out.below)
          have HBB := Aside0.mk hbb
          have HEQ1 := Aside0.mk hs1
          have HEQ2 := Aside0.mk hs2
          clear hLk hd2 htk hwh hrs hbb hC8 hrn hem hs1 hs2
          go_upto_region 23 with fail
          have hbd := ((Drawn0.refl wr).step 1).below
          have HBD := Aside0.mk (below_then HBW.out HBW.out.size hbd)
          have HC9 := Aside0.mk (Kd.C_below HC8.out hbd)
          have HCB := Aside0.mk (fun (W : World) (hW : Below w.heap.size w W) => HEQ2.out ▸ Sx.reads_string (P := Try.prog) (c := c2) Try.underlying33 Try.underlying5 Try.underlying9 (rdint (Kd.C_below HC2.out hW)))
          clear hbd
          refine wp_region_held_drew (S := fun W => Below w.heap.size w W) (by kernel_rfl) HBD.out (fun hS => ?_)
          refine wpAnyH_take (i := 0) (oi := { dst := some 109, op := _, type := _, pos := _, after := _, guard := _ }) (v := .int .i64 (a : Int)) rfl (by kernel_rfl) (by kernel_rfl) (by kernel_rfl) (fun _ _ _ h => h) (Or.inl ⟨by rfl, fun W hW => ?_⟩) hS ?_
          · (go_simp)
          try simp only [Act.put, List.setIfInBounds_toArray, List.set_cons_zero, List.set_cons_succ]
          refine wpAnyH_take (i := 1) (oi := { dst := some 110, op := _, type := _, pos := _, after := _, guard := _ }) (v := .slice A2 a c2) rfl (by kernel_rfl) (by kernel_rfl) (by kernel_rfl) (fun _ _ _ h => h) (Or.inl ⟨by rfl, fun W hW => ?_⟩) hS ?_
          · (go_simp)
          try simp only [Act.put, List.setIfInBounds_toArray, List.set_cons_zero, List.set_cons_succ]
          refine wpAnyH_take (i := 2) (oi := { dst := some 111, op := _, type := _, pos := _, after := _, guard := _ }) (v := .int .i64 (a : Int)) rfl (by kernel_rfl) (by kernel_rfl) (by kernel_rfl) (fun _ _ _ h => h) (Or.inl ⟨by rfl, fun W hW => ?_⟩) hS ?_
          · (go_simp)
          try simp only [Act.put, List.setIfInBounds_toArray, List.set_cons_zero, List.set_cons_succ]
          refine wpAnyH_take (i := 3) (oi := { dst := some 112, op := _, type := _, pos := _, after := _, guard := _ }) (v := .bool true) rfl (by kernel_rfl) (by kernel_rfl) (by kernel_rfl) (fun _ _ _ h => h) (Or.inl ⟨by rfl, fun W hW => ?_⟩) hS ?_
          · (go_simp)
          try simp only [Act.put, List.setIfInBounds_toArray, List.set_cons_zero, List.set_cons_succ]
          refine wpAnyH_take (i := 4) (oi := { dst := some 113, op := _, type := _, pos := _, after := _, guard := _ }) (v := .bool true) rfl (by kernel_rfl) (by kernel_rfl) (by kernel_rfl) (fun _ _ _ h => h) (Or.inl ⟨by rfl, fun W hW => ?_⟩) hS ?_
          · (go_simp)
          try simp only [Act.put, List.setIfInBounds_toArray, List.set_cons_zero, List.set_cons_succ]
          refine wpAnyH_take (i := 5) (oi := { dst := some 114, op := _, type := _, pos := _, after := _, guard := _ }) (v := .slice A8 rn c8) rfl (by kernel_rfl) (by kernel_rfl) (by kernel_rfl) (fun _ _ _ h => h) (Or.inl ⟨by rfl, fun W hW => ?_⟩) hS ?_
          · (go_simp)
          try simp only [Act.put, List.setIfInBounds_toArray, List.set_cons_zero, List.set_cons_succ]
          refine wpAnyH_take (i := 8) (oi := { dst := some 117, op := _, type := _, pos := _, after := _, guard := _ }) (v := .slice A2 a c2) rfl (by kernel_rfl) (by kernel_rfl) (by kernel_rfl) (fun _ _ _ h => h) (Or.inl ⟨by rfl, fun W hW => ?_⟩) hS ?_
          · (go_simp)
          try simp only [Act.put, List.setIfInBounds_toArray, List.set_cons_zero, List.set_cons_succ]
          refine wpAnyH_take (i := 9) (oi := { dst := some 118, op := _, type := _, pos := _, after := _, guard := _ }) (v := .string s2) rfl (by kernel_rfl) (by kernel_rfl) (by kernel_rfl) (fun _ _ _ h => h) (Or.inl ⟨by rfl, fun W hW => ?_⟩) hS ?_
          · (have hcb := HCB.out W hW; go_simp)
          try simp only [Act.put, List.setIfInBounds_toArray, List.set_cons_zero, List.set_cons_succ]
          refine wpAnyH_take (i := 11) (oi := { dst := some 120, op := _, type := _, pos := _, after := _, guard := _ }) (v := .bool bb) rfl (by kernel_rfl) (by kernel_rfl) (by kernel_rfl) (fun _ _ _ h => h) (Or.inl ⟨by rfl, fun W hW => ?_⟩) hS ?_
          · (go_simp)
          try simp only [Act.put, List.setIfInBounds_toArray, List.set_cons_zero, List.set_cons_succ]
          refine wpAnyH_ready (rs := [6]) (by kernel_rfl) (by simp) ?_
          refine AllReadyH.cons (o := { dst := some 115, op := _, type := _, pos := _, after := _, guard := _ }) rfl (fun K hK => ?_) AllReadyH.nil
          go_simp
          (go_at_call 46)
          refine (EncR wr.drew A8 rn c8 rs em HRN.out HC9.out hc8 (by omega) HEM.out).mono ?_
          rintro e w9 ⟨A9, c9, rfl, p1, p2, p3⟩
          have B9 := below_then HBD.out HBD.out.size p3
          have hcv9 := HEQ1.out ▸ Sx.reads_string (P := Try.prog) (c := c9) Try.underlying33 Try.underlying5 Try.underlying9 (rdint p2)
          have P9 := Aside0.mk p1
          clear p1 p2 p3
          go_wp2_with fail
          refine hK.out _ _ B9 (fun hS2 => ?_)
          clear hK K hS
          have hS := hS2
          clear hS2
          try simp only [Act.put, List.setIfInBounds_toArray, List.set_cons_zero, List.set_cons_succ]
          refine wpAnyH_ready (rs := [7]) (by kernel_rfl) (by simp) ?_
          refine AllReadyH.cons (o := { dst := some 116, op := _, type := _, pos := _, after := _, guard := _ }) rfl (fun K hK => ?_) AllReadyH.nil
          go_simp
          refine hK.out _ _ hS (fun hS2 => ?_)
          clear hK K hS2
          try simp only [Act.put, List.setIfInBounds_toArray, List.set_cons_zero, List.set_cons_succ]
          refine wpAnyH_take (i := 10) (oi := { dst := some 119, op := _, type := _, pos := _, after := _, guard := _ }) (v := .bool (s1.toList == s2.toList)) rfl (by kernel_rfl) (by kernel_rfl) (by kernel_rfl) (fun _ _ _ h => h) (Or.inl ⟨by rfl, fun W hW => ?_⟩) hS ?_
          · (go_simp)
          try simp only [Act.put, List.setIfInBounds_toArray, List.set_cons_zero, List.set_cons_succ]
          refine wpAnyH_take (i := 12) (oi := { dst := some 121, op := _, type := _, pos := _, after := _, guard := _ }) (v := .bool ((s1.toList == s2.toList) == bb)) rfl (by kernel_rfl) (by kernel_rfl) (by kernel_rfl) (fun _ _ _ h => h) (Or.inl ⟨by rfl, fun W hW => ?_⟩) hS ?_
          · (go_simp)
          try simp only [Act.put, List.setIfInBounds_toArray, List.set_cons_zero, List.set_cons_succ]
          have heq : ((s1.toList == s2.toList) == bb) = true := by
            rw [HEQ1.out, HEQ2.out, HBB.out, str_dec (enc_byte rs) HB.out, beq_self_eq_true]
          rw [heq]
          refine wpAnyH_take (i := 13) (oi := { dst := some 122, op := _, type := _, pos := _, after := _, guard := _ }) (v := .bool true) rfl (by kernel_rfl) (by kernel_rfl) (by kernel_rfl) (fun _ _ _ h => h) (Or.inl ⟨by rfl, fun W hW => ?_⟩) hS ?_
          · (go_simp)
          try simp only [Act.put, List.setIfInBounds_toArray, List.set_cons_zero, List.set_cons_succ]
          refine wpAnyH_take (i := 14) (oi := { dst := some 4, op := _, type := _, pos := _, after := _, guard := _ }) (v := .bool true) rfl (by kernel_rfl) (by kernel_rfl) (by kernel_rfl) (fun _ _ _ h => h) (Or.inl ⟨by rfl, fun W hW => ?_⟩) hS ?_
          · (go_simp)
          try simp only [Act.put, List.setIfInBounds_toArray, List.set_cons_zero, List.set_cons_succ]
          refine wpAnyH_done (by kernel_rfl) ?_ _
          go_wp2
          go_ret
          exact ⟨rfl, B9⟩
end Go.Proofs.Ytpebemljgeammaa.Ub
