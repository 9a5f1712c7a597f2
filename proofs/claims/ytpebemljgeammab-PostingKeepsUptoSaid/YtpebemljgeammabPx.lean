/-
  PostingKeeps.
-/
import Derived.Test.YtpebemljgeammabPv
import Derived.Test.YtpebemljgeammabPh
namespace Go.Proofs.Ytpebemljgeammab.Px
set_option linter.unusedVariables false
set_option linter.unusedSimpArgs false
open Go.RowKit Go.Proofs.YtpebemljgeammabW.PrintWords Go.Proofs.YtpebemljgeammabW.PrintMore Go.Proofs.Ytpebemljgeammab.Hp Go.Proofs.Ytpebemljgeammab.Fm Go.Proofs.Ytpebemljgeammab.Pn Go.Proofs.Ytpebemljgeammab.Pm Go.Proofs.Ytpebemljgeammab.Pw Go.Proofs.Ytpebemljgeammab.Pe Go.Proofs.Ytpebemljgeammab.Pd Go.Proofs.Ytpebemljgeammab.Pf Go.Proofs.Ytpebemljgeammab.Pr Go.Proofs.Ytpebemljgeammab.Pq Go.Proofs.Ytpebemljgeammab.Pv Go.Proofs.Ytpebemljgeammab.Ph Go.Proofs.Ytpebemljgeammab.PPostingKeeps

theorem wpList_app {ops : Array Oper} {rest : List Oper} {o : Oper} {a : Act} {Q : Exit → Act → World → Prop} {W W' : World} {r v1 v2 : Value} (hgd : o.guard = none) (s x : Operand) (t : TypeId) (ho : o.op = .call { callee := .builtin .append, args := #[s, x], argTypes := #[t, t] })
    (hs : a.eval s = v1) (hx : a.eval x = v2) (hr : (Builtin.append_ #[t, t] o.type #[v1, v2]).run Try.prog W = .ok r W') (h : wpList Try.prog ops Q rest (a.put o.dst r) W') : wpList Try.prog ops Q (o :: rest) a W :=
  wpList_plain hgd fun _ hK => by
    unfold Oper.wp execOp
    simp only [ho, resolve, invoke, builtin, Sem.run_bind, Sem.run_pure, Result.andThen_ok, List.map_toArray, List.map_cons, List.map_nil, hs, hx, hr]
    exact hK _ _ h
theorem sep_chg {w0 w w' : World} {L : List Th} (h : Sep w0 L w) (i : Nat) {g : Nat} {cells cells' : Array Value} {t : TypeId} (hi : L[i]? = some (blkT g cells t)) (hc : w'.heap[g]? = some (.cells cells' t (0, 0))) (hch : Chg (fun b => b = g) w w') :
    Sep w0 (L.set i (blkT g cells' t)) w' := by
  obtain ⟨ok, h1, h2, h3⟩ := h.op i _ hi
  exact h3 w' (blkT g cells' t) ok ⟨h1.1, hc⟩ (fun b hb => .inl hb) (hch.mono (fun k _ hk => by rw [hk]; exact h1.1))
theorem nums_cell (ys : List Int) (j : Nat) (h : j < ys.length) : (nums .u8 ys).toArray[j]? = some (.int .u8 (ys.getD j 0)) := by
  simp [nums, h]
theorem same_refl (l : List S42) : sameL l l = true := (sameL_iff l l).2 rfl
/-- Where the result of Number lies. -/
theorem num_form {w0 w : World} {v : Value} {xs : List Int} (h : Sep w0 [rowT KB 5 w0.heap.size v xs] w) (hx : 0 < xs.length) : ∃ g c, v = .slice (some ⟨g, 0, none⟩) xs.length c := by
  obtain ⟨ok, h1⟩ := h.one 0 _ rfl
  have h1' : KB.R 5 w w0.heap.size ok v xs := h1
  obtain ⟨inner, hown, _⟩ := h1'.2
  obtain ⟨g, cap, cs, e, _⟩ := own_form hown hx
  exact ⟨g, cap, e⟩

set_option maxRecDepth 100000 in
set_option maxHeartbeats 4000000 in
theorem main (w : World) (A : Option Addr) (n : Nat) (l : List S42) (c : Nat) (hC : k42.C w A n l) (hn : n = l.length) (hc : n ≤ c) (hs : sz l ≤ 4194304)
    (A2 : Option Addr) (b : List Int) (c2 : Nat) (hC2 : KB.C w A2 b.length b) (hc2 : b.length ≤ c2) (hB : Byt b) (hbl : b.length ≤ 1048576) :
    Calls Try.prog 5 #[.slice A n c, .slice A2 b.length c2] w fun e w' => e = .returned (.bool true) ∧ Below w.heap.size w w' := by
  obtain ⟨nb, hnb⟩ : ∃ nb, nb = b.length := ⟨_, rfl⟩
  rw [← hnb] at hC2 hc2 hbl ⊢
  obtain ⟨r, ec, hr⟩ : ∃ (r : List S42) (ec : Int), dec b = some r ∧ ec = 0 ∨ dec b = none ∧ r = [] ∧ ec = 2 := by
    cases h : (dec b : Option (List S42)) with
    | none => exact ⟨[], 2, .inr ⟨rfl, rfl, rfl⟩⟩
    | some r => exact ⟨r, 0, .inl ⟨rfl, rfl⟩⟩
  obtain ⟨q, hq⟩ : ∃ q, q = r.length := ⟨_, rfl⟩
  obtain ⟨ys, hys⟩ : ∃ ys : List Int, ys = (b ++ (List.replicate (nb + 12) 0).drop nb).set nb 9 := ⟨_, rfl⟩
  have hyl : ys.length = nb + 12 := by rw [hys]; simp; omega
  have hyt : ys.take nb = b := by
    rw [hys, List.take_set_of_le (Nat.le_refl _), hnb, List.take_left]
  have hy9 : ys.getD nb 0 = 9 := by
    rw [hys, List.getD_eq_getElem?_getD, List.getElem?_set_self (by simp; omega)]
    rfl
  obtain ⟨xs, hxs⟩ : ∃ xs, xs = b ++ num 1099511627776 := ⟨_, rfl⟩
  have hxl : xs.length ≤ nb + 10 := by rw [hxs, List.length_append, ← hnb]; have := num_len10 (n := 1099511627776) (by omega); omega
  have hxp : 0 < xs.length := by rw [hxs, List.length_append]; have := num_pos 1099511627776; omega
  have HC := Aside0.mk hC
  have HC2 := Aside0.mk hC2
  have HN := Aside0.mk hn
  have HNB := Aside0.mk hnb
  have HB := Aside0.mk hB
  have HSZ := Aside0.mk hs
  have HD := Aside0.mk hr
  have HQ := Aside0.mk hq
  have HYS := Aside0.mk hys
  have HYL := Aside0.mk hyl
  have HYT := Aside0.mk hyt
  have HY9 := Aside0.mk hy9
  have HXS := Aside0.mk hxs
  have HXL := Aside0.mk hxl
  have HXP := Aside0.mk hxp
  have HNL := Aside0.mk (show nb + (num 1099511627776).length ≤ 140737488355328 by have := num_len10 (n := 1099511627776) (by omega); omega)
  have HSL := Aside0.mk (same_refl l)
  have HSR := Aside0.mk (same_refl r)
  obtain ⟨s, hst⟩ : ∃ s, s = strOfNums b := ⟨_, rfl⟩
  have HST := Aside0.mk hst
  clear hC hC2 hn hnb hB hs hr hq hys hyl hyt hy9 hxs hxl hxp hst
  obtain ⟨i8, hi8, hz8⟩ := Option.map_eq_some_iff.1 info_8
  simp only [Prod.mk.injEq] at hz8
  have HMK := Aside0.mk (show ∀ W : World, (Instr.makeSlice 22 (.int .i64 0) (.int .i64 ((nb : Int) + 12))).run Try.prog W = .ok (.slice (some ⟨W.heap.size, 0, none⟩) 0 (nb + 12)) (W.alloc (.cells (nums .u8 (List.replicate (nb + 12) 0)).toArray 5)) by
    intro W
    have := run_make (P := Try.prog) W 22 5 i8 (.int .u8 0) Try.underlying22 hi8 hz8.1 .i64 .i64 0 ((nb : Int) + 12) (Int.le_refl _) (by omega) (by rw [hz8.2.2]; omega) (by omega)
    rw [hz8.2.1, Rm.made] at this
    simpa [show ((nb : Int) + 12).toNat = nb + 12 by omega] using this)
  have HFUL := Aside0.mk (show ∀ (g : Nat) (W : World), (Instr.slice 22 (.slice (some ⟨g, 0, none⟩) nb (nb + 12)) none (some (.int .i64 ((nb : Int) + 12))) none).run Try.prog W = .ok (.slice (some ⟨g, 0, none⟩) (nb + 12) (nb + 12)) W by
    intro g W
    have hel : Try.prog.elem 22 = 5 := by simp [Program.elem, Try.underlying22]
    have hu : Try.prog.underlying 22 = some (.slice (Try.prog.elem 22)) := by rw [hel]; exact Try.underlying22
    rw [run_slice_h W 22 (some ⟨g, 0, none⟩) nb (nb + 12) hu .i64 ((nb : Int) + 12) (by omega) (by omega), hel]
    simp [sizeOf, typeInfo, hi8, sliced, Result.andThen, Addr.add]
    omega)
  clear hi8 hz8
  go_enter Try.func5, Try.ntmps5
  go_wp2_with (first | (go_at_call 8; go_must (refine (Pg.fixed w).mono ?_; rintro e w1 ⟨rfl, p1⟩; have H1 := Aside0.mk p1; clear p1)) | (go_at_call 18; go_must (refine (CopyP w1 A n c l (Kd.C_below HC.out H1.out) HN.out hc HSZ.out).mono ?_; rintro e w2 ⟨v2, rfl, p1⟩; obtain ⟨A3, c3, rfl, hc3, -⟩ := p1.reads 0 rfl; rw [← HN.out] at hc3 p1 ⊢; have S2 := Aside0.mk p1; have hmk := HMK.out w2; clear p1; have S3 := Aside0.mk (sep_new S2.out (nums .u8 (List.replicate (nb + 12) 0)).toArray 5); obtain ⟨W4, hap, hbk, hch⟩ := Rm.append_room (w2.alloc (.cells (nums .u8 (List.replicate (nb + 12) 0)).toArray 5)) 22 w2.heap.size (nb + 12) (List.replicate (nb + 12) 0) (heap_alloc_new w2 _) List.length_replicate A2 nb c2 b (rdint (Kd.C_below HC2.out (below_then H1.out H1.out.size S3.out.below))) (by omega); have HAP := Aside0.mk hap; have S4 := sep_chg S3.out 1 rfl hbk hch; have hcell4 := (blk_cell hbk nb).trans (nums_cell _ nb (by have h := HNB.out; simp; omega)); have hfr4 := blk_frozen hbk nb; have hful := HFUL.out w2.heap.size; have S5 := Aside0.mk (show Sep w1 [rowT k42 TP w1.heap.size (.slice A3 n c3) l, blkT w2.heap.size (nums .u8 ys).toArray 5] (W4.setCell ⟨w2.heap.size, nb, none⟩ (.int .u8 9)) by have h := sep_set S4 1 rfl nb (.int .u8 9) _ (blk_set hbk nb (.int .u8 9)); rw [Rm.nums_set, ← HYS.out] at h; exact h); clear hap hbk hch S2 S3 S4)) | (at_builtin; go_must (refine wpList_app rfl (.tmp 25) (.tmp 26) 22 rfl rfl rfl HAP.out ?_)) | (go_at_call 12; go_must (obtain ⟨A4, c4, e4, hc4, hC4⟩ := S5.out.reads 0 rfl; rw [← HN.out] at e4 hc4 hC4; cases e4; refine (EncAny _ A3 n c3 l hC4 HN.out hc4 HSZ.out).mono ?_; rintro e w6 ⟨A5, n5, c5, ec5, rfl, p1⟩; have S6 := Aside0.mk (S5.out.later p1); clear p1 S5 hcell4 hfr4 hful HAP hmk hC4)) | (go_at_call 14; go_must (refine (NumberP w6 (some ⟨w2.heap.size, 0, none⟩) nb (nb + 12) b ?ha HNB.out (by omega) 1099511627776 (by omega) HNL.out).mono ?_; (case ha => have h := Rm.room_reads (sep_blk S6.out 1 rfl).1 (by rw [HYL.out]; omega) nb (by rw [HYL.out]; omega); rw [HYT.out] at h; exact rdC h); rintro e w7 ⟨v7, rfl, p1⟩; rw [← HXS.out] at p1; obtain ⟨gx, cx, rfl⟩ := num_form p1 HXP.out; have S7 := Aside0.mk (show Sep w1 [rowT k42 TP w1.heap.size (.slice A3 n c3) l, blkT w2.heap.size (nums .u8 ys).toArray 5, rowT KB 5 w1.heap.size (.slice (some ⟨gx, 0, none⟩) xs.length cx) xs] w7 from Go.Proofs.Ytpebemljgeammab.Pw.Sep.more S6.out p1); clear p1 S6)))
  obtain ⟨g, hg⟩ : ∃ g, g = w2.heap.size := ⟨_, rfl⟩
  rw [← hg] at S7 ⊢
  clear hg
  obtain ⟨xl, hxl⟩ : ∃ xl, xl = xs.length := ⟨_, rfl⟩
  rw [← hxl] at S7 ⊢
  have HXN := Aside0.mk hxl
  have hxb : xl ≤ 1048600 := by rw [hxl]; have := HXL.out; omega
  clear hxl
  go_loopw [43] (fun iv wr => ∃ (i : Nat) (zs : List Int), i ≤ xl ∧ iv = .int .i64 i ∧ Aside0 (xl = zs.length) ∧ Aside0 (Sep w1 [rowT k42 TP w1.heap.size (.slice A3 n c3) l, blkT g (nums .u8 ys).toArray 5, rowT KB 5 w1.heap.size (.slice (some ⟨gx, 0, none⟩) xl cx) zs] wr)) (fun iv _ => xl - (intOf iv).toNat)
  case atStart => exact ⟨0, xs, Nat.zero_le _, rfl, HXN, S7⟩
  case round =>
    clear S7
    obtain ⟨i, zs, hi, rfl, HZL, HS⟩ := hrel
    by_cases hlt : i < xl
    · have hd : decide ((i : Int) < (xl : Int)) = true := decide_eq_true (by omega)
      obtain ⟨⟨u0, hcell⟩, hfr, hS⟩ := row_set HS.out 2 rfl HZL.out i hlt 0
      have NS := Aside0.mk hS
      clear hS
      go_wp2
      go_roundw
      case rel => exact ⟨i + 1, zs.set i 0, by omega, by go_num, ⟨by rw [List.length_set]; exact HZL.out⟩, NS⟩
      case measure => simp [intOf]; omega
    · have hd : decide ((i : Int) < (xl : Int)) = false := decide_eq_false (by omega)
      obtain ⟨w8, hw8⟩ : ∃ w8, w8 = wr := ⟨_, rfl⟩
      rw [← hw8] at HS ⊢
      clear hw8
      go_wp2_with (first | (go_at_call 9; go_must (refine (DecodeP w8 (some ⟨g, 0, none⟩) nb (nb + 12) b ?hb HB.out HNB.out (by omega) (by omega) r ec HD.out).mono ?_; (case hb => have h := Rm.room_reads (sep_blk HS.out 1 rfl).1 (by rw [HYL.out]; omega) nb (by rw [HYL.out]; omega); rw [HYT.out] at h; exact rdC h); rintro e w9 ⟨v9, rfl, p1⟩; obtain ⟨A9, c9, rfl, -, -⟩ := p1.reads 0 rfl; have hq9 := (p1.reads 0 rfl).choose_spec.choose_spec.2.2.2.1; rw [← HQ.out] at p1 hq9 ⊢; have S9 := Aside0.mk p1; clear p1)))
      go_loopw [57] (fun iv wr2 => ∃ i : Nat, i ≤ q ∧ iv = .int .i64 i ∧ Aside0 (Wr w8 w9 wr2)) (fun iv _ => q - (intOf iv).toNat)
      case atStart => exact ⟨0, Nat.zero_le _, rfl, ⟨Wr.start S9.out.below⟩⟩
      case round =>
        obtain ⟨i, hi, rfl, HW⟩ := hrel
        by_cases hlt : i < q
        · have hd : decide ((i : Int) < (q : Int)) = true := decide_eq_true (by omega)
          obtain ⟨gm, cm, cs, A1, q1, c1, e9, hh, hcs, hq1, hin⟩ := m_elem S9.out i (by rw [← HQ.out]; exact hlt)
          injection e9 with e9 e10 e11
          subst e9
          clear e10 e11
          have hhead := (blk_cell (HW.out.2.1 gm cs hh) (i * 2 + 1)).trans hcs
          have HH := Aside0.mk hh
          have HCS := Aside0.mk hcs
          have HIN := Aside0.mk hin
          clear hh hcs hin
          go_wp2
          clear hhead
          go_loopw [66] (fun jv wr3 => ∃ j : Nat, j ≤ q1 ∧ jv = .int .i64 j ∧ Aside0 (Wr w8 w9 wr3)) (fun jv _ => q1 - (intOf jv).toNat)
          case atStart => exact ⟨0, Nat.zero_le _, rfl, HW⟩
          case round =>
            clear HW
            obtain ⟨j, hj, rfl, HW⟩ := hrel
            by_cases hlt2 : j < q1
            · have hd2 : decide ((j : Int) < (q1 : Int)) = true := decide_eq_true (by omega)
              obtain ⟨ga, cs3, rfl, h3, h4, h5⟩ := HIN.out (by omega)
              have hhead := (blk_cell (HW.out.2.1 gm cs HH.out) (i * 2 + 1)).trans HCS.out
              obtain ⟨⟨u0, hcell⟩, hfr, hW⟩ := HW.out.set h3 h5 (show j < cs3.size by omega) (.int .i64 (-1))
              have NW := Aside0.mk hW
              clear hW h3 h4 h5
              go_wp2
              go_roundw
              case rel => exact ⟨j + 1, by omega, by go_num, NW⟩
              case measure => simp [intOf]; omega
            · have hd2 : decide ((j : Int) < (q1 : Int)) = false := decide_eq_false (by omega)
              go_wp2
              go_roundw
              case rel => exact ⟨i + 1, by omega, by go_num, HW⟩
              case measure => simp [intOf]; omega
        · have hd : decide ((i : Int) < (q : Int)) = false := decide_eq_false (by omega)
          have S10 := Aside0.mk (HS.out.later HW.out.1)
          clear HW
          go_wp2_with (first | (go_at_call 9; go_must (refine (DecodeP wr (some ⟨g, 0, none⟩) nb (nb + 12) b ?hb2 HB.out HNB.out (by omega) (by omega) r ec HD.out).mono ?_; (case hb2 => have h := Rm.room_reads (sep_blk S10.out 1 rfl).1 (by rw [HYL.out]; omega) nb (by rw [HYL.out]; omega); rw [HYT.out] at h; exact rdC h); rintro e w11 ⟨v11, rfl, p1⟩; obtain ⟨A11, c11, rfl, hc11, hC11⟩ := p1.reads 0 rfl; rw [← HQ.out] at hc11 hC11 ⊢; have C11 := Aside0.mk hC11; have S11 := Aside0.mk (S10.out.later p1.below); clear p1 hC11)) | (go_at_call 10; go_must (refine (RefDecodeP w11 A2 nb c2 b (Kd.C_below HC2.out (below_then H1.out H1.out.size S11.out.below)) HB.out HNB.out hc2 (by omega) r ec HD.out).mono ?_; rintro e w12 ⟨v12, rfl, p1⟩; obtain ⟨A12, c12, rfl, hc12, hC12⟩ := p1.reads 0 rfl; rw [← HQ.out] at hc12 hC12 ⊢; have C12 := Aside0.mk hC12; have D11 := Aside0.mk (Kd.C_below C11.out p1.below); have S12 := Aside0.mk (S11.out.later p1.below); have TK := Aside0.mk trivial; clear p1 hC12)) | (go_at_call 11; have t := TK.out; clear TK; obtain ⟨A4, c4, e4, hc4, hC4⟩ := S12.out.reads 0 rfl; rw [← HN.out] at e4 hc4 hC4; cases e4; refine (SameP w12 A3 n c3 l hC4 HN.out hc4 A n c l (Kd.C_below HC.out (below_then H1.out H1.out.size S12.out.below)) HN.out hc true HSL.out).mono ?_; rintro e w13 ⟨rfl, p1⟩; have S13 := Aside0.mk (S12.out.later p1.below); have E11 := Aside0.mk (Kd.C_below D11.out p1.below); have E12 := Aside0.mk (Kd.C_below C12.out p1.below); have hcvb := Sx.reads_string (P := Try.prog) (c := c2) Try.underlying22 Try.underlying5 Try.underlying9 (rdint (Kd.C_below HC2.out (below_then H1.out H1.out.size S13.out.below))); rw [← HST.out] at hcvb; have hbk13 := (sep_blk S13.out 1 rfl).1; have hrm := Rm.room_reads hbk13 (by rw [HYL.out]; omega) nb (by rw [HYL.out]; omega); rw [HYT.out] at hrm; have hcvr := Sx.reads_string (P := Try.prog) (c := nb + 12) Try.underlying22 Try.underlying5 Try.underlying9 hrm; rw [← HST.out] at hcvr; have hc9 := (blk_cell hbk13 nb).trans (nums_cell _ nb (by rw [HYL.out]; omega)); rw [HY9.out] at hc9; clear p1 t hC4 hbk13 hrm) | (go_at_call 11; go_must (refine (SameP w13 A11 q c11 r E11.out HQ.out hc11 A12 q c12 r E12.out HQ.out hc12 true HSR.out).mono ?_; rintro e w14 ⟨rfl, p1⟩; have S14 := Aside0.mk (S13.out.later p1.below); clear p1)))
          go_ret
          exact ⟨rfl, below_then H1.out H1.out.size S14.out.below⟩
theorem walk (w : World) (A : Option Addr) (xs : List (Int × List Int)) (c : Nat) (hC : (Kd.pair (Kd.int .i64) (Kd.slice 3 (Kd.int .i64))).C w A xs.length xs) (hc : xs.length ≤ c) (_hw : ∀ x, x ∈ xs → (Lit.int .i64 x.1).wf = true ∧ ∀ y, y ∈ x.2 → (Lit.int .i64 y).wf = true) (hB : Od.sumB (fun x : Int × List Int => 1 + (Od.sumB (fun _ => 1) x.2 + 1) + 1) xs ≤ 1048576)
    (A2 : Option Addr) (b : List Int) (c2 : Nat) (hC2 : KB.C w A2 b.length b) (hc2 : b.length ≤ c2) (hw2 : ∀ x, x ∈ b → (Lit.int .u8 x).wf = true) (hB2 : Od.sumB (fun _ => 1) b ≤ 1048576) :
    Calls Try.prog 5 #[.slice A xs.length c, .slice A2 b.length c2] w fun e w' => e = .returned (.bool true) ∧ Below w.heap.size w w' :=
  main w A xs.length _ c (k_of_pair hC) (by simp) hc (Nat.le_trans (sz_bulk xs) (by omega)) A2 b c2 hC2 hc2 (wf_byt hw2) (Nat.le_trans (Od.sumB_len (fun _ => Nat.le_refl _) b) hB2)
end Go.Proofs.Ytpebemljgeammab.Px
