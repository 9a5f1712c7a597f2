/-
  UtfChunks.
-/
import Derived.Test.YtpebemljgeammaaDc
import Derived.BigQuiet
namespace Go.Proofs.Ytpebemljgeammaa.Uk
set_option linter.unusedVariables false
set_option linter.unusedSimpArgs false
open Go.RowKit Go.Proofs.YtpebemljgeammaaW.PrintWords Go.Proofs.Ytpebemljgeammaa.Hp Go.Proofs.Ytpebemljgeammaa.Fm Go.Proofs.Ytpebemljgeammaa.Dc Go.Proofs.Ytpebemljgeammaa.PUtfDecodes Go.Proofs.Ytpebemljgeammaa.Ux Go.Proofs.Ytpebemljgeammaa.Ud Go.Proofs.Ytpebemljgeammaa.Uh

abbrev KB : Kd Int := Kd.int .u8
theorem row_at {w : World} {A : Option Addr} {e : Nat} {xs : List (List Int)} (h : (Kd.slice e KB).C w A xs.length xs) (k : Nat) (hk : k < xs.length) :
    ∃ ad Ak ck, A = some ad ∧ w.cell? (ad.add k) = some (.slice Ak xs[k].length ck) ∧ xs[k].length ≤ ck ∧ ReadsInt w .u8 Ak xs[k].length xs[k] := by
  obtain ⟨ad, e1, hc⟩ := h.2.2 (by omega)
  obtain ⟨cs, hl, hK, hcell⟩ := hc k xs[k] (List.getElem?_eq_getElem hk)
  obtain ⟨Ak, ck, rfl, h1, h2⟩ := hK
  refine ⟨ad, Ak, ck, e1, ?_, h1, rdint h2⟩
  have := hcell 0 _ rfl
  have e2 : k * (Kd.slice e KB).sz + 0 = k := by show k * 1 + 0 = k; omega
  rw [e2] at this
  exact this
theorem flat_sum (xs : List (List Int)) : xs.flatten.length ≤ Od.sumB (fun l => Od.sumB (fun _ => 1) l + 1) xs := by
  induction xs with
  | nil => simp [Od.sumB]
  | cons x l ih =>
    have := Od.sumB_len (bulk := fun _ : Int => 1) (fun _ => Nat.le_refl _) x
    simp only [List.flatten_cons, List.length_append, Od.sumB]
    omega
theorem flat_take (xs : List (List Int)) (k : Nat) : (xs.take k).flatten.length ≤ xs.flatten.length := by
  have : xs.flatten = (xs.take k).flatten ++ (xs.drop k).flatten := by rw [← List.flatten_append, List.take_append_drop]
  rw [this, List.length_append]
  omega
theorem flat_succ (xs : List (List Int)) (k : Nat) (hk : k < xs.length) : (xs.take (k + 1)).flatten = (xs.take k).flatten ++ xs[k] := by
  rw [List.take_succ_eq_append_getElem hk, List.flatten_append]
  simp
theorem flat_bytes {xs : List (List Int)} (h : ∀ x, x ∈ xs → Bytes x) (k : Nat) : Bytes (xs.take k).flatten := by
  intro y hy
  obtain ⟨l, hl, hyl⟩ := List.mem_flatten.1 hy
  exact h l (List.mem_of_mem_take hl) y hyl

theorem reads' {α : Type} {d : Kd α} {e base : Nat} {A : Option Addr} {m c : Nat} {xs : List α} {w0 w : World} {L : List Th} (h : Sep w0 L w) (i : Nat) (hi : L[i]? = some (rowT d e base (.slice A m c) xs)) : m = xs.length ∧ m ≤ c ∧ d.C w A m xs := by
  obtain ⟨ok, h1⟩ := h.one i _ hi
  have := Kd.R_reads' (show d.R e w base ok (.slice A m c) xs from h1)
  exact ⟨this.1, this.2.1, this.1 ▸ this.2.2⟩
theorem RefP (w : World) (A : Option Addr) (n c : Nat) (bs : List Int) (op : Bool) (P : List S72) (m : Nat) (hn : n = bs.length) (hb : KB.C w A n bs) (hc : n ≤ c) (hB : Bytes bs) (hl : n ≤ 1000000000) (hP : refd bs op = P) (hm : m = P.length) :
    Calls Try.prog 43 #[.slice A n c, .bool op] w fun e w' => ∃ A' c', e = .returned (.slice A' m c') ∧ m ≤ c' ∧ Kd.C k72 w' A' m P ∧ Below w.heap.size w w' := by
  subst hn hP hm
  refine (RefDecode w A c bs op hb hc hB hl).mono ?_
  rintro e w' ⟨A', c', rfl, h1, h2, h3⟩
  exact ⟨A', c', rfl, h1, (Kd.R_reads' h2).2.2, h3⟩
theorem DecP (w : World) (A : Option Addr) (n c : Nat) (bs : List Int) (P : List S72) (m : Nat) (hb : KB.C w A n bs) (hB : Bytes bs) (hl : n ≤ 1000000000) (hP : full bs = P) (hm : m = P.length) :
    Calls Try.prog 42 #[.slice A n c] w fun e w' => ∃ A' c', e = .returned (.slice A' m c') ∧ m ≤ c' ∧ Kd.C k72 w' A' m P ∧ Below w.heap.size w w' := by
  subst hP hm
  refine (Decode w A n c bs (rdint hb) hB hl).mono ?_
  rintro e w' ⟨A', c', rfl, h1, h2, h3⟩
  exact ⟨A', c', rfl, h1, (Kd.R_reads' h2).2.2, h3⟩
theorem SameP (w : World) (A B : Option Addr) (c d n : Nat) (l : List S72) (hn : n = l.length) (hl : n ≤ 1000000000) (h1 : Kd.C k72 w A n l) (hc : n ≤ c) (h2 : Kd.C k72 w B n l) (hd : n ≤ d) :
    Calls Try.prog 41 #[.slice A n c, .slice B n d] w fun e w' => e = .returned (.bool true) ∧ Drawn0 w w' := by
  subst hn
  exact Same w A B c d l l rfl hl h1 hc h2 hd

/-- At a round's head: all that came, what of it is told, the decoder. -/
def Inv (w1 : World) (g : Nat) (done : List Int) (allv toldv : Value) (wr : World) : Prop :=
  Sep w1 [decT g w1.heap.size (dc done 0).2.1 (dc done 0).2.2 false, rowT KB 5 w1.heap.size allv done, rowT k72 TP w1.heap.size toldv (dc done 0).1] wr

set_option maxRecDepth 100000 in
set_option maxHeartbeats 8000000 in
theorem chunks (w : World) (A : Option Addr) (xs : List (List Int)) (c : Nat) (hC : (Kd.slice 5 KB).C w A xs.length xs) (hc : xs.length ≤ c) (hw : ∀ x, x ∈ xs → ∀ y, y ∈ x → (Lit.int .u8 y).wf = true) (hb : Od.sumB (fun l => Od.sumB (fun _ => 1) l + 1) xs ≤ 1048576)
    (A2 : Option Addr) (late : List Int) (c2 : Nat) (hC2 : KB.C w A2 late.length late) (hc2 : late.length ≤ c2) (hw2 : ∀ y, y ∈ late → (Lit.int .u8 y).wf = true) (hb2 : Od.sumB (fun _ => 1) late ≤ 1048576) :
    Calls Try.prog 9 #[.slice A xs.length c, .slice A2 late.length c2] w fun e w' => e = .returned (.bool true) ∧ Below w.heap.size w w' := by
  have hF := Nat.le_trans (flat_sum xs) hb
  have hBY : ∀ x, x ∈ xs → Bytes x := fun x hx => wf_bytes (hw x hx)
  have hlate : late.length ≤ 1048576 := Nat.le_trans (Od.sumB_len (fun _ => Nat.le_refl _) late) hb2
  have hm : xs.length ≤ 9223372036854775807 := hC.2.1
  obtain ⟨n, hn⟩ : ∃ n, n = xs.length := ⟨_, rfl⟩
  rw [← hn] at hm
  rw [← hn]
  have HN := Aside0.mk hn
  have HC := Aside0.mk hC
  have HF := Aside0.mk hF
  have HBY := Aside0.mk hBY
  clear hC hw hb hC2 hw2 hb2 hF hBY hc hc2 hn
  go_enter Try.func9, Try.ntmps9
  go_wp2_with (first | (go_at_call 40; refine (Ug.fixed w).mono ?_; rintro e w1 ⟨rfl, h1⟩; have H1 := Aside0.mk h1; clear h1) | (go_at_call 48; go_must (refine (NewS (Sep.start (Below.refl _ w1))).mono ?_; rintro e w2 ⟨g, rfl, p1⟩; have S0 := Aside0.mk (show Inv w1 g [] (.slice none 0 0) (.slice none 0 0) w2 from (p1.empty KB 5 w1.heap.size).empty k72 TP w1.heap.size); clear p1)))
  go_loopw [6, 7, 17] (fun allv toldv i wr => ∃ k : Nat, k ≤ n ∧ i = .int .i64 k ∧ Aside0 (Inv w1 g (xs.take k).flatten allv toldv wr)) (fun _ _ i _ => n - (intOf i).toNat)
  case atStart => exact ⟨0, Nat.zero_le _, rfl, ⟨by simpa using S0.out⟩⟩
  case round =>
    obtain ⟨k, hk, rfl, HI⟩ := hrel
    by_cases hlt : k < n
    · have hd : decide (k < n) = true := by simpa using hlt
      have hbl : Below w.heap.size w wr := below_then H1.out H1.out.size HI.out.below
      have hkx : k < xs.length := by have := HN.out; omega
      obtain ⟨ad, Ak, ck, rfl, hcell0, hlk, hrd⟩ := row_at HC.out k hkx
      have hcell := cell_later hbl hcell0
      have hys : Bytes xs[k] := HBY.out _ (List.getElem_mem hkx)
      have hsucc := flat_succ xs k hkx
      have hfl := flat_take xs (k + 1)
      have hF := HF.out
      obtain ⟨ys, hyy⟩ : ∃ ys, ys = xs[k] := ⟨_, rfl⟩
      have hdb := flat_bytes HBY.out k
      rw [← hyy] at hcell0 hcell hlk hrd hys hsucc
      obtain ⟨done, hdn⟩ : ∃ done, done = (xs.take k).flatten := ⟨_, rfl⟩
      rw [← hdn] at HI hsucc hdb
      rw [hsucc, List.length_append] at hfl
      have HSU := Aside0.mk hsucc
      have HRD := Aside0.mk hrd
      have HBL := Aside0.mk hbl
      clear hyy hdn hsucc hrd hcell0 hbl hkx
      have hS0 := HI.out
      unfold Inv at hS0
      obtain ⟨ok1, hR1, hf1, hN1⟩ := hS0.row 1 rfl
      have hsz := hS0.below.size
      have HR1 := Aside0.mk hR1
      have HF1 := Aside0.mk hf1
      have HN1 := Aside0.mk hN1
      have hx1 : (done.length + ys.length) * 1 ≤ 140737488355328 := by omega
      obtain ⟨all, hall⟩ : ∃ all, all = done ++ ys := ⟨_, rfl⟩
      obtain ⟨La, hLa⟩ : ∃ La, La = all.length := ⟨_, rfl⟩
      have hda := dc_append done ys 0
      rw [← hall] at hda
      have hdl := dc_len done 0
      have hdr := dc_rest done 0
      have hal := dc_len all 0
      have har := dc_rest all 0
      have hae := dc_end all 0
      have haB : Bytes all := by rw [hall]; intro y hy; exact (List.mem_append.1 hy).elim (hdb y) (hys y)
      have hkb : Bytes ((dc done 0).2.1 ++ ys) := fun y hy => (List.mem_append.1 hy).elim (dc_bytes hdb 0 y) (hys y)
      have hlen : La = done.length + ys.length := by rw [hLa, hall, List.length_append]
      have hLb : La ≤ 1048576 := by omega
      obtain ⟨pts, hpts⟩ : ∃ pts, pts = (dc done 0).1 := ⟨_, rfl⟩
      obtain ⟨rest, hrest⟩ : ∃ rest, rest = (dc done 0).2.1 := ⟨_, rfl⟩
      obtain ⟨at0, hat0⟩ : ∃ at0, at0 = (dc done 0).2.2 := ⟨_, rfl⟩
      obtain ⟨P, hP⟩ : ∃ P, P = (dc all 0).1 := ⟨_, rfl⟩
      obtain ⟨R, hR⟩ : ∃ R, R = (dc all 0).2.1 := ⟨_, rfl⟩
      obtain ⟨E, hE⟩ : ∃ E, E = (dc all 0).2.2 := ⟨_, rfl⟩
      obtain ⟨N1, hN1⟩ : ∃ N1, N1 = (dc (rest ++ ys) at0).1 := ⟨_, rfl⟩
      rw [← hpts, ← hrest, ← hat0] at hda hdl
      rw [← hP, ← hR, ← hE] at hal
      rw [← hR] at har
      rw [← hP, ← hE] at hae
      have hPe : P = pts ++ N1 := by rw [hP, hda, ← hN1]
      have hRe : R = (dc (rest ++ ys) at0).2.1 := by rw [hR, hda]
      have hEe : E = (dc (rest ++ ys) at0).2.2 := by rw [hE, hda]
      have hrl : rest.length ≤ 3 := by rw [hrest]; exact hdr.1
      rw [← hrest] at hkb
      have hat : 0 ≤ at0 ∧ at0 ≤ 4000000000000000 := by omega
      have hwl : rest.length + ys.length ≤ 1000000000 := by omega
      have hrf : refd all true = P := by unfold refd; rw [← hP]; simp
      obtain ⟨q, hq⟩ : ∃ q, q = P.length := ⟨_, rfl⟩
      have hql : q ≤ La := by omega
      have hRl : R.length ≤ 3 := har.1
      have hER : E + (R.length : Int) = La := by rw [hLa]; have := hal.1; omega
      have hNl : (pts.length + N1.length) * 24 ≤ 140737488355328 := by have := congrArg List.length hPe; rw [List.length_append] at this; omega
      have hPl : P.length = pts.length + N1.length := by rw [hPe, List.length_append]
      have hnl : N1.length ≤ 1000000000 := by omega
      have hEi : (La : Int) - E = R.length := by omega
      have hRi : decide ((R.length : Int) > 3) = false := by simp; omega
      have hS0' : Sep w1 [decT g w1.heap.size rest at0 false, rowT KB 5 w1.heap.size u6 done, rowT k72 TP w1.heap.size u7 pts] wr := by rw [hrest, hat0, hpts]; exact hS0
      have HIN := Aside0.mk (fun (v6 v7 : Value) (W : World) (hs : Sep w1 [decT g w1.heap.size R E false, rowT KB 5 w1.heap.size v6 all, rowT k72 TP w1.heap.size v7 P] W) => (show Inv w1 g (xs.take (k + 1)).flatten v6 v7 W by
        rw [HSU.out, ← hall]; unfold Inv; rw [← hR, ← hE, ← hP]; exact hs))
      have HKB := Aside0.mk hkb
      have HAB := Aside0.mk haB
      have HRF := Aside0.mk hrf
      have HPE := Aside0.mk hPe
      have HRE := Aside0.mk hRe
      have HEE := Aside0.mk hEe
      have HN0 := Aside0.mk hN1
      have HAL := Aside0.mk hall
      have HAE := Aside0.mk hae
      have HLA := Aside0.mk hLa
      have HQ := Aside0.mk hq
      clear hq HSU hkb haB hrf hPe hRe hEe hN1 hall hae hLa hda hdl hdr hal har hdb hys hpts hrest hat0 hP hR hE hS0 hPl hlen hfl
      have HS0 := Aside0.mk hS0'
      clear hS0' HR1 HF1 HN1 hR1 hf1 hN1 ok1 HI
      obtain ⟨ok1, hR1, hf1, hN1⟩ := HS0.out.row 1 rfl
      have HR1 := Aside0.mk hR1
      have HF1 := Aside0.mk hf1
      have HN1 := Aside0.mk hN1
      clear hR1 hf1 hN1
      go_wp2_with (at_builtin; go_must (refine Kd.R_append_row (Value.int .u8) (0 : Int) (w0 := wr) w1.heap.size rfl (.tmp 21) (.tmp 22) 33 5 (.int .u8 0) 1 rfl Try.underlying33 info_8 rfl (by decide) u6 done ys Ak ys.length ck ok1 rfl rfl HF1.out HR1.out (rdC (HRD.out.below HBL.out)) (Below.refl _ _) hsz hx1 ?hh))
      case hh =>
        intro v1 w3 hR3 hb3 hg3 hat3
        have hS1 := HN1.out v1 w3 _ hR3 hg3
        rw [← HAL.out] at hS1
        have HS1 := Aside0.mk (show Sep w1 [decT g w1.heap.size rest at0 false, rowT KB 5 w1.heap.size v1 all, rowT k72 TP w1.heap.size u7 pts] w3 from hS1)
        obtain ⟨Aa, ca, rfl, hca, _⟩ := HS1.out.reads 1 rfl
        rw [← HLA.out] at hca HS1 ⊢
        have HCA := Aside0.mk hca
        have HB3 := Aside0.mk (below_then H1.out H1.out.size HS1.out.below)
        clear hS1 hR3 hb3 hg3 hat3 HR1 HF1 HN1 hca
        go_wp2_with (first | (go_at_call 49; go_must (refine (WriteS HS1.out 0 rfl Ak ys.length ck ys (HRD.out.below HB3.out) HKB.out hwl hat).mono ?_; rintro e w4 ⟨A4, c4, rfl, p4⟩; rw [← HN0.out, ← HRE.out, ← HEE.out] at p4; rw [← HN0.out]; have HS2 := Aside0.mk (show Sep w1 [decT g w1.heap.size R E false, rowT KB 5 w1.heap.size (.slice Aa La ca) all, rowT k72 TP w1.heap.size u7 pts, rowT k72 TP w1.heap.size (.slice A4 N1.length c4) N1] w4 from p4); clear p4; have hs4 := HS2.out.below.size; obtain ⟨ok2, hR2, hf2, hN2⟩ := HS2.out.row 2 rfl; have HR2 := Aside0.mk hR2; have HF2 := Aside0.mk hf2; have HN2 := Aside0.mk hN2; clear hR2 hf2 hN2; obtain ⟨_, _, he4, hc4, hC4⟩ := HS2.out.reads 3 rfl; cases he4; have HC4 := Aside0.mk hC4; clear hC4)) | (at_builtin; go_must (refine Kd.R_append_rows k72 (Rr := k72.K w4) (w0 := w4) w1.heap.size rfl (.tmp 24) (.tmp 27) 62 TP (.agg #[.int .i32 0, .int .i64 0, .int .i64 0]) 24 rfl Try.underlying62 info_P rfl (by decide) (by decide) u7 pts N1 A4 N1.length c4 ok2 (fun _ => False) rfl rfl HR2.out HC4.out (fun x cs h => k72_KM x cs h) (fun _ h => h.elim) HF2.out (Below.refl _ _) hs4 hNl ?h2)))
        case h2 =>
          intro v5 w5 hR5 hb5 hg5 hat5
          have hS5 := HN2.out v5 w5 _ hR5 hg5
          rw [← HPE.out] at hS5
          have HS5 := Aside0.mk (Sep.init (L := [decT g w1.heap.size R E false, rowT KB 5 w1.heap.size (.slice Aa La ca) all, rowT k72 TP w1.heap.size v5 P]) (T := rowT k72 TP w1.heap.size (.slice A4 N1.length c4) N1) hS5)
          obtain ⟨At, ct, rfl, hct, _⟩ := HS5.out.reads 2 rfl
          have HCT := Aside0.mk hct
          clear hS5 hR5 hb5 hg5 hat5 HR2 HF2 HN2 hct HC4
          rw [← HQ.out] at HCT HS5 ⊢
          have HP0 := Aside0.mk (show q = 0 → E = 0 from fun h0 => HAE.out.1 (List.eq_nil_of_length_eq_zero (by rw [← HQ.out, h0])))
          have HP1 := Aside0.mk (show ∀ x, P[q - 1]? = some x → x.f1 + x.f2 = E from fun x hx => HAE.out.2 x (by rw [List.getLast?_eq_getElem?, ← HQ.out]; exact hx))
          clear HAE
          rcases q with _ | q
          · have hE0 := HP0.out rfl
            subst hE0
            clear HP0 HP1
            go_wp2_with (first | (go_at_call 43; go_must (have h0 := reads' HS5.out 1 rfl; refine (RefP w5 Aa La ca all true P 0 h0.1 h0.2.2 h0.2.1 HAB.out (by omega) HRF.out HQ.out).mono ?_; rintro e w6 ⟨Aw, cw, rfl, p1, p2, p3⟩; have HW1 := Aside0.mk p1; have HW2 := Aside0.mk p2; have HS6 := Aside0.mk (HS5.out.later p3); clear p1 p2 p3 h0)) | (go_at_call 41; go_must (have h0 := reads' HS6.out 2 rfl; refine (SameP w6 At Aw ct cw 0 P HQ.out (by omega) h0.2.2 HCT.out HW2.out HW1.out).mono ?_; rintro e w7 ⟨rfl, p1⟩; have HS7 := Aside0.mk (HS6.out.later p1.below); clear p1 h0)) | (go_at_call 50; go_must (refine (PendS HS7.out 0 rfl).mono ?_; rintro e w8 ⟨rfl, rfl⟩)))
            go_roundw
            case rel => exact ⟨k + 1, by omega, by go_num, ⟨HIN.out _ _ _ HS7.out⟩⟩
            case measure => simp [intOf]; omega
          · obtain ⟨x, hx⟩ : ∃ x, P[q]? = some x := ⟨P[q]'(by have := HQ.out; omega), List.getElem?_eq_getElem _⟩
            have hxE := HP1.out x (by simpa using hx)
            obtain ⟨x0, x1, x2⟩ := x
            have hxE' : x1 + x2 = E := hxE
            have HX := Aside0.mk hx
            clear HP0 HP1 hxE hx
            go_wp2_with (first | (go_at_call 43; go_must (have h0 := reads' HS5.out 1 rfl; refine (RefP w5 Aa La ca all true P (q + 1) h0.1 h0.2.2 h0.2.1 HAB.out (by omega) HRF.out HQ.out).mono ?_; rintro e w6 ⟨Aw, cw, rfl, p1, p2, p3⟩; obtain ⟨aw, e6, z0, z1, z2⟩ := Ug.pts_at p2 q (by omega) _ HX.out; subst e6; have HW1 := Aside0.mk p1; have HW2 := Aside0.mk p2; have HS6 := Aside0.mk (HS5.out.later p3); clear p1 p2 p3 h0)))
            go_quiet (fail)
            have HS6b := Aside0.mk (HS6.out.later ((Drawn0.refl w6).step nq).below)
            have HW2b := Aside0.mk (Kd.C_below HW2.out ((Drawn0.refl w6).step nq).below)
            clear HS6 HW2 z0 z1 z2
            generalize w6.drewN nq = W at HS6b HW2b ⊢
            go_wp2_with (first | (go_at_call 41; go_must (have h0 := reads' HS6b.out 2 rfl; refine (SameP W At (some aw) ct cw (q + 1) P HQ.out (by omega) h0.2.2 HCT.out HW2b.out HW1.out).mono ?_; rintro e w7 ⟨rfl, p1⟩; have HS7 := Aside0.mk (HS6b.out.later p1.below); clear p1 h0)) | (go_at_call 50; go_must (refine (PendS HS7.out 0 rfl).mono ?_; rintro e w8 ⟨rfl, rfl⟩)))
            go_roundw
            case rel => exact ⟨k + 1, by omega, by go_num, ⟨HIN.out _ _ _ HS7.out⟩⟩
            case measure => simp [intOf]; omega
    · have hd : decide (k < n) = false := by simpa using hlt
      have hkn : (xs.take k).flatten = xs.flatten := by rw [List.take_of_length_le (by have := HN.out; omega)]
      obtain ⟨all, hall⟩ : ∃ all, all = xs.flatten := ⟨_, rfl⟩
      rw [hkn, ← hall] at HI
      have haB := flat_bytes HBY.out k
      rw [hkn, ← hall] at haB
      have hF := HF.out
      rw [← hall] at hF
      obtain ⟨La, hLa⟩ : ∃ La, La = all.length := ⟨_, rfl⟩
      have hS0 := HI.out
      unfold Inv at hS0
      obtain ⟨P, hP⟩ : ∃ P, P = (dc all 0).1 := ⟨_, rfl⟩
      obtain ⟨R, hR⟩ : ∃ R, R = (dc all 0).2.1 := ⟨_, rfl⟩
      obtain ⟨E, hE⟩ : ∃ E, E = (dc all 0).2.2 := ⟨_, rfl⟩
      have hfu : full all = P ++ rest1 R E := by rw [hP, hR, hE]; rfl
      have hful := full_len all
      rw [← hP, ← hR, ← hE] at hS0
      obtain ⟨N1, hN1⟩ : ∃ N1, N1 = rest1 R E := ⟨_, rfl⟩
      rw [← hN1] at hfu
      obtain ⟨At, ct, rfl, hct, _⟩ := hS0.reads 2 rfl
      obtain ⟨Aa, ca, rfl, hca, _⟩ := hS0.reads 1 rfl
      obtain ⟨q, hq⟩ : ∃ q, q = (full all).length := ⟨_, rfl⟩
      have hLb : La ≤ 1048576 := by omega
      have hql : q ≤ 1048576 := by omega
      have hNl : (P.length + N1.length) * 24 ≤ 140737488355328 := by have := congrArg List.length hfu; rw [List.length_append] at this; omega
      rw [← hLa] at hS0 hca ⊢
      have HS0 := Aside0.mk hS0
      have HAB := Aside0.mk haB
      have HFU := Aside0.mk hfu
      have HN1 := Aside0.mk hN1
      have HQ := Aside0.mk hq
      have HLA := Aside0.mk hLa
      have HCA := Aside0.mk hca
      clear hkn hall HI haB hF hLa hS0 hP hR hE hfu hful hN1 hq hca hct
      go_wp2_with (first | (go_at_call 51; go_must (refine (CloseS HS0.out 0 rfl).mono ?_; rintro e w4 ⟨A4, c4, rfl, p4⟩; rw [← HN1.out] at p4; rw [← HN1.out]; have HS2 := Aside0.mk (show Sep w1 [decT g w1.heap.size [] E true, rowT KB 5 w1.heap.size (.slice Aa La ca) all, rowT k72 TP w1.heap.size (.slice At P.length ct) P, rowT k72 TP w1.heap.size (.slice A4 N1.length c4) N1] w4 from p4); clear p4; have hs4 := HS2.out.below.size; obtain ⟨ok2, hR2, hf2, hN2⟩ := HS2.out.row 2 rfl; have HR2 := Aside0.mk hR2; have HF2 := Aside0.mk hf2; have HN2 := Aside0.mk hN2; clear hR2 hf2 hN2; have h0 := reads' HS2.out 3 rfl; have HC4 := Aside0.mk h0.2.2; clear h0)) | (at_builtin; go_must (refine Kd.R_append_rows k72 (Rr := k72.K w4) (w0 := w4) w1.heap.size rfl (.tmp 68) (.tmp 70) 62 TP (.agg #[.int .i32 0, .int .i64 0, .int .i64 0]) 24 rfl Try.underlying62 info_P rfl (by decide) (by decide) (.slice At P.length ct) P N1 A4 N1.length c4 ok2 (fun _ => False) rfl rfl HR2.out HC4.out (fun x cs h => k72_KM x cs h) (fun _ h => h.elim) HF2.out (Below.refl _ _) hs4 hNl ?h2)))
      case h2 =>
        intro v5 w5 hR5 hb5 hg5 hat5
        have hS5 := HN2.out v5 w5 _ hR5 hg5
        rw [← HFU.out] at hS5
        have HS5 := Aside0.mk (Sep.init (L := [decT g w1.heap.size [] E true, rowT KB 5 w1.heap.size (.slice Aa La ca) all, rowT k72 TP w1.heap.size v5 (full all)]) (T := rowT k72 TP w1.heap.size (.slice A4 N1.length c4) N1) hS5)
        obtain ⟨At2, ct2, rfl, hct, _⟩ := HS5.out.reads 2 rfl
        rw [← HQ.out] at hct HS5 ⊢
        have HCT := Aside0.mk hct
        clear hS5 hR5 hb5 hg5 hat5 HR2 HF2 HN2 hct HC4
        go_wp2_with (first | (go_at_call 42; go_must (have h0 := reads' HS5.out 1 rfl; refine (DecP w5 Aa La ca all (full all) q h0.2.2 HAB.out (by omega) rfl HQ.out).mono ?_; rintro e w6 ⟨Aw, cw, rfl, p1, p2, p3⟩; have HW1 := Aside0.mk p1; have HW2 := Aside0.mk p2; have HS6 := Aside0.mk (HS5.out.later p3); clear p1 p2 p3 h0)) | (go_at_call 41; go_must (have h0 := reads' HS6.out 2 rfl; refine (SameP w6 At2 Aw ct2 cw q (full all) HQ.out (by omega) h0.2.2 HCT.out HW2.out HW1.out).mono ?_; rintro e w7 ⟨rfl, p1⟩; have HS7 := Aside0.mk (HS6.out.later p1.below); clear p1 h0)) | (go_at_call 50; go_must (refine (PendS HS7.out 0 rfl).mono ?_; rintro e w8 ⟨rfl, rfl⟩)) | (go_at_call 49; go_must (refine (WriteClosedS HS7.out 0 rfl _ _ _).mono ?_; rintro e w8 ⟨rfl, rfl⟩)) | (go_at_call 51; go_must (refine (CloseClosedS HS7.out 0 rfl).mono ?_; rintro e w8 ⟨rfl, rfl⟩)))
        go_ret
        exact ⟨rfl, below_then H1.out H1.out.size HS7.out.below⟩
end Go.Proofs.Ytpebemljgeammaa.Uk
