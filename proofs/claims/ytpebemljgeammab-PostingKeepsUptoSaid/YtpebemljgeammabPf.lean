/-
  posting.Decode walked.
-/
import Derived.Test.YtpebemljgeammabPd
namespace Go.Proofs.Ytpebemljgeammab.Pf
set_option linter.unusedVariables false
set_option linter.unusedSimpArgs false
open Go.RowKit Go.Proofs.YtpebemljgeammabW.PrintWords Go.Proofs.Ytpebemljgeammab.Hp Go.Proofs.Ytpebemljgeammab.Fm Go.Proofs.Ytpebemljgeammab.Pn Go.Proofs.Ytpebemljgeammab.Pm Go.Proofs.Ytpebemljgeammab.Pw Go.Proofs.Ytpebemljgeammab.Pe Go.Proofs.Ytpebemljgeammab.Pd Go.Proofs.Ytpebemljgeammab.PPostingKeeps

abbrev TR : Nat := 48
abbrev TP : Nat := 42
abbrev KI : Kd Int := Kd.int .i64
def cutA (A : Option Addr) (c k : Nat) : Option Addr := if c = k then A else A.map (·.add (k * 1))
/-- What a reader reads. -/
def Rdr (w0 : World) (A : Option Addr) (n c : Nat) (b : List Int) : Prop :=
  (∀ W, Below w0.heap.size w0 W → KB.C W A n b) ∧ n = b.length ∧ n ≤ c ∧ Byt b ∧ n ≤ 140737488355328
theorem Rdr.cut {w0 : World} {A : Option Addr} {n c : Nat} {b : List Int} (h : Rdr w0 A n c b) (k : Nat) (hk : k ≤ n) : Rdr w0 (cutA A c k) (n - k) (c - k) (b.drop k) := by
  obtain ⟨h1, h2, h3, h4, h5⟩ := h
  refine ⟨fun W hW => ?_, by rw [List.length_drop, h2], by omega, fun x hx => h4 x (List.mem_of_mem_drop hx), by omega⟩
  have := (rdint (h1 W hW)).drop_ k hk h3
  unfold cutA
  rw [Nat.mul_one]
  exact rdC this
theorem info_S : (Try.prog.info? TP).map (fun i => (i.zero, i.size, i.bytes)) = some (some (.agg #[(.int .i64 0), (.slice none 0 0)]), 2, 32) := by kernel_rfl
theorem info_I : (Try.prog.info? 3).map (fun i => (i.zero, i.size, i.bytes)) = some (some (.int .i64 0), 1, 8) := by kernel_rfl

section
variable {w0 w : World} {L : List Th}
def NextPost (w0 : World) (L : List Th) (i g : Nat) (b : List Int) (bad : Bool) (e : Ending) (w' : World) : Prop :=
  ∃ (x : Nat) (A' : Option Addr) (n' c' : Nat) (b' : List Int) (bad' : Bool), e = .returned (.int .i64 x) ∧ Stp b bad x b' bad' ∧ Rdr w0 A' n' c' b' ∧ Sep w0 (L.set i (blkT g #[.slice A' n' c', .bool bad'] TR)) w'
set_option maxRecDepth 100000 in
set_option maxHeartbeats 1000000 in
theorem NextT (h : Sep w0 L w) (i : Nat) {g : Nat} {A : Option Addr} {n c : Nat} {b : List Int} {bad : Bool} (hi : L[i]? = some (blkT g #[.slice A n c, .bool bad] TR)) (hr : Rdr w0 A n c b) :
    Calls Try.prog 19 #[.pointer (some ⟨g, 0, none⟩)] w (NextPost w0 L i g b bad) := by
  have hb := (sep_blk h i hi).1
  have hc0 := blk_cell hb 0
  have hc1 := blk_cell hb 1
  have hf0 := blk_frozen hb 0
  have hf1 := blk_frozen hb 1
  have hgl := blk_lt hb
  have H := Aside0.mk h
  have HI := Aside0.mk hi
  have HR := Aside0.mk hr
  have HB := Aside0.mk hb
  have hcap : n ≤ c := hr.2.2.1
  have hl5 : n ≤ 140737488355328 := hr.2.2.2.2
  obtain ⟨i8, hi8, hz8⟩ := Option.map_eq_some_iff.1 info_8
  simp only [Prod.mk.injEq] at hz8
  obtain ⟨v, hv⟩ : ∃ v, v = (rd1 b).1 := ⟨_, rfl⟩
  obtain ⟨k, hk⟩ : ∃ k, k = (rd1 b).2 := ⟨_, rfl⟩
  have hrd : rd1 b = (v, k) := by rw [hv, hk]
  have hkn : k ≤ n := by
    rcases rd1_inv b hr.2.2.2.1 with h1 | ⟨m, r, h1, h2, _⟩
    · rw [hk, h1]; exact Nat.zero_le _
    · rw [hk, h2, hr.2.1, h1]; simp
  have hvb : v < 18446744073709551616 := by
    rcases rd1_inv b hr.2.2.2.1 with h1 | ⟨m, r, h1, h2, h3⟩
    · rw [hv, h1]; decide
    · rw [hv, h2]; exact h3
  have HRD := Aside0.mk hrd
  have HV := Aside0.mk hv
  have HK := Aside0.mk hk
  clear hr hi h hv hk hrd hb
  have hcut : ∀ W : World, (Instr.slice 22 (.slice A n c) (some (.int .i64 (k : Int))) none none).run Try.prog W = .ok (.slice (cutA A c k) (n - k) (c - k)) W := by
    intro W
    have := cut_from (P := Try.prog) 22 5 .i64 Try.underlying22 hi8 1 hz8.2.1 A n c (k : Int) (by omega) (by omega) W
    simpa [cutA] using this
  clear hi8 hz8
  by_cases hbad : k = 0 ∨ 2147483647 < v
  · have HN := Aside0.mk (show nx b = none by unfold nx; rw [if_pos]; rw [← HV.out, ← HK.out]; exact hbad)
    by_cases hk0 : k = 0
    · subst hk0
      go_enter Try.func19, Try.ntmps19
      go_wp2_with (first | (go_at_call 15; go_must (refine (ReadP w A n c b (HR.out.1 w H.out.below) HR.out.2.2.2.1 HR.out.2.1 hcap hl5 v 0 HRD.out).mono ?_; rintro e w1 ⟨rfl, ⟨nd, rfl⟩⟩)))
      go_ret
      exact ⟨0, A, n, c, b, true, rfl, ⟨by omega, .inr ⟨HN.out, rfl, rfl, rfl⟩⟩, HR.out, sep_set (H.out.later (pw_below_drewN (Below.refl _ _) nd)) i HI.out 1 (.bool true) _ (blk_set (cs := #[.slice A n c, .bool bad]) (blk_drewN HB.out nd) 1 (.bool true))⟩
    · have hv6 : 2147483647 < v := by omega
      · have hd : ((k : Int) == 0) = false := by simp; omega
        have hd2 : decide ((v : Int) > 2147483647) = true := by simp; omega
        have hd3 : decide ((2147483647 : Int) < (v : Int)) = true := by simp; omega
        go_enter Try.func19, Try.ntmps19
        go_wp2_with (first | (go_at_call 15; go_must (refine (ReadP w A n c b (HR.out.1 w H.out.below) HR.out.2.2.2.1 HR.out.2.1 hcap hl5 v k HRD.out).mono ?_; rintro e w1 ⟨rfl, ⟨nd, rfl⟩⟩)))
        go_ret
        exact ⟨0, A, n, c, b, true, rfl, ⟨by omega, .inr ⟨HN.out, rfl, rfl, rfl⟩⟩, HR.out, sep_set (H.out.later (pw_below_drewN (Below.refl _ _) nd)) i HI.out 1 (.bool true) _ (blk_set (cs := #[.slice A n c, .bool bad]) (blk_drewN HB.out nd) 1 (.bool true))⟩
  · have HN := Aside0.mk (show nx b = some (v, b.drop k) by unfold nx; rw [if_neg]; rw [← HV.out, ← HK.out]; rw [← HV.out, ← HK.out]; exact hbad)
    have hd : ((k : Int) == 0) = false := by simp; omega
    have hd2 : decide ((v : Int) > 2147483647) = false := by simp; omega
    have hd3 : decide ((2147483647 : Int) < (v : Int)) = false := by simp; omega
    have hv5 : v ≤ 2147483647 := by omega
    go_enter Try.func19, Try.ntmps19
    go_wp2_with (first | (go_at_call 15; go_must (refine (ReadP w A n c b (HR.out.1 w H.out.below) HR.out.2.2.2.1 HR.out.2.1 hcap hl5 v k HRD.out).mono ?_; rintro e w1 ⟨rfl, ⟨nd, rfl⟩⟩)))
    go_ret
    exact ⟨v, cutA A c k, n - k, c - k, b.drop k, bad, by first | rfl | go_num, ⟨hv5, .inl ⟨HN.out, rfl⟩⟩, HR.out.cut k hkn, sep_set (H.out.later (pw_below_drewN (Below.refl _ _) nd)) i HI.out 0 (.slice (cutA A c k) (n - k) (c - k)) _ (blk_set (cs := #[.slice A n c, .bool bad]) (blk_drewN HB.out nd) 0 (.slice (cutA A c k) (n - k) (c - k)))⟩
end
set_option maxRecDepth 100000 in
set_option maxHeartbeats 4000000 in
theorem DecodeP (w : World) (A : Option Addr) (n c : Nat) (b : List Int) (hC : KB.C w A n b) (hB : Byt b) (hn : n = b.length) (hc : n ≤ c) (hl : n ≤ 140737488355328) (r : List S42) (ec : Int) (hr : dec b = some r ∧ ec = 0 ∨ dec b = none ∧ r = [] ∧ ec = 2) :
    Calls Try.prog 9 #[.slice A n c] w fun e w' => ∃ v, e = .returned (.tuple #[v, .int .i64 ec]) ∧ Sep w [rowT k42 TP w.heap.size v r] w' := by
  have HR0 := Aside0.mk (show Rdr w A n c b from ⟨fun W hW => Kd.C_below hC hW, hn, hc, hB, hl⟩)
  have HRES := Aside0.mk hr
  clear hC hB hn hr
  have hu42 := Try.underlying42
  have hu48 := Try.underlying48
  have S0 := Aside0.mk (sep_new ((Sep.nil w).empty k42 TP w.heap.size) #[.slice A n c, .bool false] TR)
  go_enter Try.func9, Try.ntmps9
  go_wp2_with (first | (go_at_call 19; go_must (refine (NextT S0.out 1 rfl HR0.out).mono ?_; rintro e w1 ⟨N, A1, n1, c1, b1, bad1, rfl, p1, p2, p3⟩; have T1 := Aside0.mk p1; have R1 := Aside0.mk p2; have S1 := Aside0.mk p3; clear p1 p2 p3)))
  obtain ⟨g, hg⟩ : ∃ g, g = w.heap.size := ⟨_, rfl⟩
  have S1' := Aside0.mk (show Sep w [rowT k42 TP w.heap.size (.slice none 0 0) [], blkT g #[.slice A1 n1 c1, .bool bad1] TR] w1 by rw [hg]; exact S1.out)
  rw [← hg]
  clear S1 S0 hg
  have hN5 := T1.out.1
  go_loopw [7, 6, 5] (fun nv dv lv wr => ∃ (k : Nat) (d : Int) (ls : List S42) (A' : Option Addr) (n' c' : Nat) (b' : List Int) (bad : Bool), nv = .int .i64 k ∧ dv = .int .i64 d ∧ k + ls.length = N ∧ (-1 ≤ d ∧ d + 1 ≤ ls.length * 2147483648) ∧ Aside0 (Rdr w A' n' c' b') ∧ Aside0 (InL N b1 bad1 k d ls b' bad) ∧ Aside0 (Sep w [rowT k42 TP w.heap.size lv ls, blkT g #[.slice A' n' c', .bool bad] TR] wr)) (fun nv _ _ _ => (intOf nv).toNat)
  case atStart => exact ⟨N, -1, [], A1, n1, c1, b1, bad1, rfl, rfl, rfl, by simp, R1, ⟨InL.start N b1 bad1⟩, S1'⟩
  case round =>
    clear S1' R1
    obtain ⟨k, d, ls, A2, n2, c2, b2, bad, rfl, rfl, hkl, hdb, HR, HL, HS⟩ := hrel
    have hb := (sep_blk HS.out 1 rfl).1
    have y0 := blk_cell hb 0
    have y1 := blk_cell hb 1
    clear hb
    by_cases hgo : 0 < k ∧ bad = false
    · obtain ⟨hk0, rfl⟩ := hgo
      obtain ⟨k', rfl⟩ : ∃ k', k = k' + 1 := ⟨k - 1, by omega⟩
      have hd1 : decide ((0 : Int) < ((k' + 1 : Nat) : Int)) = true := decide_eq_true (by omega)
      have hd2 : decide (((k' + 1 : Nat) : Int) > (0 : Int)) = true := decide_eq_true (by omega)
      have TK := Aside0.mk trivial
      go_wp2_with (first | (go_at_call 19; have t := TK.out; clear TK; refine (NextT HS.out 1 rfl HR.out).mono ?_; rintro e w2 ⟨x1, A3, n3, c3, b3, bad3, rfl, p1, p2, p3⟩; have hx1 := p1.1; have T2 := Aside0.mk p1; have R2 := Aside0.mk p2; have S2 := Aside0.mk ((sep_new (show Sep w [rowT k42 TP w.heap.size u5 ls, blkT g #[.slice A3 n3 c3, .bool bad3] TR] w2 from p3) #[.int .i64 (d + 1 + x1), .slice none 0 0] TP).empty KI 3 w.heap.size); clear p1 p2 p3 t y0 y1) | (go_at_call 19; go_must (refine (NextT S2.out 1 rfl R2.out).mono ?_; rintro e w3 ⟨x2, A4, n4, c4, b4, bad4, rfl, p1, p2, p3⟩; have hx2 := p1.1; have T3 := Aside0.mk p1; have R3 := Aside0.mk p2; have S3 := Aside0.mk (show Sep w [rowT k42 TP w.heap.size u5 ls, blkT g #[.slice A4 n4 c4, .bool bad4] TR, blkT w2.heap.size #[.int .i64 (d + 1 + x1), .slice none 0 0] TP, rowT KI 3 w.heap.size (.slice none 0 0) []] w3 from p3); clear p1 p2 p3 S2)))
      obtain ⟨gp, hgp⟩ : ∃ gp, gp = w2.heap.size := ⟨_, rfl⟩
      rw [← hgp] at S3 ⊢
      clear hgp hd1 hd2
      obtain ⟨D, hD⟩ : ∃ D, D = d + 1 + (x1 : Int) := ⟨_, rfl⟩
      have hDb : -1 ≤ D ∧ D + 1 ≤ ((ls.length + 1 : Nat) : Int) * 2147483648 := by omega
      rw [← hD] at S3 ⊢
      have HD := Aside0.mk hD
      clear hD
      go_loopw [10, 9] (fun kv av wr2 => ∃ (k2 : Nat) (a : Int) (f : List Int) (v1 : Value) (A5 : Option Addr) (n5 c5 : Nat) (b5 : List Int) (bad5 : Bool), kv = .int .i64 k2 ∧ av = .int .i64 a ∧ k2 + f.length = x2 + 1 ∧ (-1 ≤ a ∧ a + 1 ≤ f.length * 2147483648) ∧ Aside0 (Rdr w A5 n5 c5 b5) ∧ Aside0 (InA (x2 + 1) b4 bad4 k2 a f b5 bad5) ∧ Aside0 (Sep w [rowT k42 TP w.heap.size u5 ls, blkT g #[.slice A5 n5 c5, .bool bad5] TR, blkT gp #[.int .i64 D, v1] TP, rowT KI 3 w.heap.size v1 f] wr2)) (fun kv _ _ => (intOf kv).toNat)
      case atStart => exact ⟨x2 + 1, -1, [], .slice none 0 0, A4, n4, c4, b4, bad4, by go_num, rfl, rfl, by simp, R3, ⟨InA.start _ _ _⟩, S3⟩
      case round =>
        clear S3 R3 R2
        obtain ⟨k2, a, f, v1, A5, n5, c5, b5, bad5, rfl, rfl, hkf, hab, HR5, HA, HS5⟩ := hrel
        obtain ⟨Av, cv, rfl, -, -⟩ := HS5.out.reads 3 rfl
        have hb := (sep_blk HS5.out 1 rfl).1
        have y0 := blk_cell hb 0
        have y1 := blk_cell hb 1
        clear hb
        obtain ⟨fn, hfn⟩ : ∃ fn, fn = f.length := ⟨_, rfl⟩
        by_cases hgo : 0 < k2 ∧ bad5 = false
        · obtain ⟨hk0, rfl⟩ := hgo
          obtain ⟨k3, rfl⟩ : ∃ k3, k2 = k3 + 1 := ⟨k2 - 1, by omega⟩
          have hd1 : decide ((0 : Int) < ((k3 + 1 : Nat) : Int)) = true := decide_eq_true (by omega)
          have hd2 : decide (((k3 + 1 : Nat) : Int) > (0 : Int)) = true := decide_eq_true (by omega)
          have hxb : ∀ x6 : Nat, x6 ≤ 2147483647 → -1 ≤ a + (1 + (x6 : Int)) ∧ a + (1 + (x6 : Int)) + 1 ≤ ((f.length + 1 : Nat) : Int) * 2147483648 ∧ a + (1 + (x6 : Int)) ≤ 9223372036854775807 := fun x6 h => by omega
          have HML := Aside0.mk (show (f.length + 1) * 8 ≤ 140737488355328 by omega)
          go_wp2_with (first | (go_at_call 19; go_must (refine (NextT HS5.out 1 rfl HR5.out).mono ?_; rintro e w6 ⟨x6, A6, n6, c6, b6, bad6, rfl, p1, p2, p3⟩; have hx6 := p1.1; have T6 := Aside0.mk p1; have R6 := Aside0.mk p2; have S6 := Aside0.mk (show Sep w [rowT k42 TP w.heap.size u5 ls, blkT g #[.slice A6 n6 c6, .bool bad6] TR, blkT gp #[.int .i64 D, .slice Av f.length cv] TP, rowT KI 3 w.heap.size (.slice Av f.length cv) f] w6 from p3); have hb6 := (sep_blk S6.out 2 rfl).1; have z1 := blk_cell hb6 1; obtain ⟨ok1, hR1, hf1, hN1⟩ := S6.out.row 3 rfl; have hs6 := S6.out.below.size; have HR1 := Aside0.mk hR1; have HF1 := Aside0.mk hf1; have HN1 := Aside0.mk hN1; clear hR1 hf1 hN1 hb6 p1 p2 p3 y0 y1)) | (at_builtin; go_must (refine Kd.R_append KI (w0 := w6) w.heap.size rfl (.tmp 55) (.tmp 57) 40 3 (.int .i64 0) 8 rfl Try.underlying40 info_I rfl (by decide) (by decide) (.slice Av f.length cv) f (a + (1 + (x6 : Int))) [.int .i64 (a + (1 + (x6 : Int)))] ok1 (fun _ => False) rfl rfl rfl (fun _ h => h.elim) HF1.out HR1.out (Below.refl _ _) hs6 HML.out ?hh)))
          case hh =>
            intro v7 w7 hR7 hb7 hg7 hat7
            have hS7 : Sep w [rowT k42 TP w.heap.size u5 ls, blkT g #[.slice A6 n6 c6, .bool bad6] TR, blkT gp #[.int .i64 D, .slice Av f.length cv] TP, rowT KI 3 w.heap.size v7 (f ++ [a + (1 + (x6 : Int))])] w7 := HN1.out v7 w7 _ hR7 hg7
            obtain ⟨A7, c7, rfl, -, -⟩ := hS7.reads 3 rfl
            have hb7' := (sep_blk hS7 2 rfl).1
            have z2 := blk_cell hb7' 1
            have z3 := blk_frozen hb7' 1
            have HB7 := Aside0.mk hb7'
            have HS7 := Aside0.mk hS7
            clear hS7 hR7 hb7 hg7 hat7 HR1 HF1 HN1 hb7' z1
            go_wp2
            go_roundw
            case rel => exact ⟨k3, a + (1 + (x6 : Int)), f ++ [a + (1 + (x6 : Int))], (.slice A7 (f ++ [a + (1 + (x6 : Int))]).length c7), A6, n6, c6, b6, bad6, by go_num, by go_num, by simp; omega, by have := hxb x6 hx6; rw [List.length_append]; exact ⟨this.1, this.2.1⟩, R6, ⟨by have := HA.out.step T6.out; rw [Int.add_assoc] at this; exact this⟩, ⟨by
                have h := sep_set HS7.out 2 rfl 1 (.slice A7 (f ++ [a + (1 + (x6 : Int))]).length c7) _ (blk_set HB7.out 1 (.slice A7 (f ++ [a + (1 + (x6 : Int))]).length c7))
                rw [List.length_append] at h ⊢
                exact h⟩⟩
            case measure => simp [intOf] <;> omega
        · have hend : bad5 = false → k2 = 0 := fun h => by
            rcases Nat.eq_zero_or_pos k2 with h2 | h2
            · exact h2
            · exact absurd ⟨h2, h⟩ hgo
          have hgz : (∃ k3, k2 = k3 + 1 ∧ bad5 = true) ∨ k2 = 0 := by
            rcases Nat.eq_zero_or_pos k2 with h2 | h2
            · exact .inr h2
            · cases bad5 with
              | false => exact absurd ⟨h2, rfl⟩ hgo
              | true => exact .inl ⟨k2 - 1, by omega, rfl⟩
          have HEND := Aside0.mk hend
          have hb := (sep_blk HS5.out 2 rfl).1
          have z0 := blk_cell hb 0
          have z1 := blk_cell hb 1
          clear hb hend hgo
          obtain ⟨ok, okj, hR, hR2, hoj, hfr, hN⟩ := sep_rows HS5.out 0 3 (by decide) rfl rfl
          have hs6 := HS5.out.below.size
          have HML := Aside0.mk (show (ls.length + 1) * 32 ≤ 140737488355328 by omega)
          have HR1 := Aside0.mk hR
          have HR2 := Aside0.mk hR2
          have HOJ := Aside0.mk hoj
          have HF1 := Aside0.mk hfr
          have HN1 := Aside0.mk hN
          clear hR hR2 hoj hfr hN
          rcases hgz with ⟨k3, rfl, rfl⟩ | rfl
          · have hd1 : decide ((0 : Int) < ((k3 + 1 : Nat) : Int)) = true := decide_eq_true (by omega)
            have hd2 : decide (((k3 + 1 : Nat) : Int) > (0 : Int)) = true := decide_eq_true (by omega)
            go_wp2_with (at_builtin; go_must (refine Kd.R_append k42 (w0 := wr) w.heap.size rfl (.tmp 60) (.tmp 62) 24 TP (.agg #[(.int .i64 0), (.slice none 0 0)]) 32 rfl Try.underlying24 info_S rfl (by decide) (by decide) u5 ls (⟨D, f⟩ : S42) [.int .i64 D, .slice Av f.length cv] ok okj rfl rfl (k42_mkM wr w.heap.size okj ⟨D, f⟩ HR2.out) HOJ.out HF1.out HR1.out (Below.refl _ _) hs6 HML.out ?hk1))
            case hk1 =>
              intro v9 w9 hR9 hb9 hg9 hat9
              have hS9 : Sep w [rowT k42 TP w.heap.size v9 (ls ++ [(⟨D, f⟩ : S42)]), blkT g #[.slice A5 n5 c5, .bool true] TR] w9 := Sep.init (T := blkT gp #[.int .i64 D, .slice Av f.length cv] TP) (Sep.init (T := noT) (L := [rowT k42 TP w.heap.size v9 (ls ++ [(⟨D, f⟩ : S42)]), blkT g #[.slice A5 n5 c5, .bool true] TR, blkT gp #[.int .i64 D, .slice Av f.length cv] TP]) (HN1.out v9 w9 _ hR9 hg9))
              have HS9 := Aside0.mk hS9
              clear hS9 hR9 hb9 hg9 hat9 HR1 HR2 HOJ HF1 HN1 z0 z1
              go_wp2
              go_roundw
              case rel => exact ⟨k', D, ls ++ [(⟨D, f⟩ : S42)], A5, n5, c5, b5, true, by go_num, by go_num, by simp; omega, by rw [List.length_append]; exact hDb, HR5, ⟨by rw [HD.out]; exact HL.out.step T2.out T3.out HA.out (fun h => by cases h)⟩, HS9⟩
              case measure => simp [intOf] <;> omega
          · go_wp2_with (at_builtin; go_must (refine Kd.R_append k42 (w0 := wr) w.heap.size rfl (.tmp 60) (.tmp 62) 24 TP (.agg #[(.int .i64 0), (.slice none 0 0)]) 32 rfl Try.underlying24 info_S rfl (by decide) (by decide) u5 ls (⟨D, f⟩ : S42) [.int .i64 D, .slice Av f.length cv] ok okj rfl rfl (k42_mkM wr w.heap.size okj ⟨D, f⟩ HR2.out) HOJ.out HF1.out HR1.out (Below.refl _ _) hs6 HML.out ?hk2))
            case hk2 =>
              intro v9 w9 hR9 hb9 hg9 hat9
              have hS9 : Sep w [rowT k42 TP w.heap.size v9 (ls ++ [(⟨D, f⟩ : S42)]), blkT g #[.slice A5 n5 c5, .bool bad5] TR] w9 := Sep.init (T := blkT gp #[.int .i64 D, .slice Av f.length cv] TP) (Sep.init (T := noT) (L := [rowT k42 TP w.heap.size v9 (ls ++ [(⟨D, f⟩ : S42)]), blkT g #[.slice A5 n5 c5, .bool bad5] TR, blkT gp #[.int .i64 D, .slice Av f.length cv] TP]) (HN1.out v9 w9 _ hR9 hg9))
              have HS9 := Aside0.mk hS9
              clear hS9 hR9 hb9 hg9 hat9 HR1 HR2 HOJ HF1 HN1 z0 z1
              go_wp2
              go_roundw
              case rel => exact ⟨k', D, ls ++ [(⟨D, f⟩ : S42)], A5, n5, c5, b5, bad5, by go_num, by go_num, by simp; omega, by rw [List.length_append]; exact hDb, HR5, ⟨by rw [HD.out]; exact HL.out.step T2.out T3.out HA.out (fun _ => rfl)⟩, HS9⟩
              case measure => simp [intOf] <;> omega
    · have hend : bad = false → k = 0 := fun h => by
        rcases Nat.eq_zero_or_pos k with h2 | h2
        · exact h2
        · exact absurd ⟨h2, h⟩ hgo
      have hde := dec_end T1.out HL.out hend
      have hres := HRES.out
      clear HRES
      cases bad with
      | true =>
        rw [if_neg (by simp)] at hde
        rw [hde] at hres
        obtain ⟨rfl, rfl⟩ : r = [] ∧ ec = 2 := by
          rcases hres with ⟨h, _⟩ | ⟨_, h1, h2⟩
          · cases h
          · exact ⟨h1, h2⟩
        clear hres hde hend hgo
        rcases Nat.eq_zero_or_pos k with rfl | hk
        · go_wp2
          go_ret2
          exact ⟨_, rfl, (Sep.start HS.out.below).empty k42 TP w.heap.size⟩
        · obtain ⟨k3, rfl⟩ : ∃ k3, k = k3 + 1 := ⟨k - 1, by omega⟩
          have hd1 : decide ((0 : Int) < ((k3 + 1 : Nat) : Int)) = true := decide_eq_true (by omega)
          have hd2 : decide (((k3 + 1 : Nat) : Int) > (0 : Int)) = true := decide_eq_true (by omega)
          go_wp2
          go_ret2
          exact ⟨_, rfl, (Sep.start HS.out.below).empty k42 TP w.heap.size⟩
      | false =>
        obtain rfl : k = 0 := hend rfl
        obtain ⟨A9, c9, rfl, hc9, hC9⟩ := HS.out.reads 0 rfl
        obtain ⟨ln, hln⟩ : ∃ ln, ln = ls.length := ⟨_, rfl⟩
        rw [← hln] at hC9 hc9 HS ⊢
        by_cases hn2 : 0 < n2
        · have hb2 : b2 ≠ [] := by
            intro h
            have := HR.out.2.1
            rw [h] at this
            simp at this; omega
          rw [if_neg (by simp [hb2])] at hde
          rw [hde] at hres
          obtain ⟨rfl, rfl⟩ : r = [] ∧ ec = 2 := by
            rcases hres with ⟨h, _⟩ | ⟨_, h1, h2⟩
            · cases h
            · exact ⟨h1, h2⟩
          clear hres hde hend hgo
          obtain ⟨n3, rfl⟩ : ∃ n3, n2 = n3 + 1 := ⟨n2 - 1, by omega⟩
          have hd1 : decide ((0 : Int) < ((n3 + 1 : Nat) : Int)) = true := decide_eq_true (by omega)
          have hd2 : decide (((n3 + 1 : Nat) : Int) > (0 : Int)) = true := decide_eq_true (by omega)
          go_wp2
          go_ret2
          exact ⟨_, rfl, (Sep.start HS.out.below).empty k42 TP w.heap.size⟩
        · obtain rfl : n2 = 0 := by omega
          have hb2 : b2 = [] := List.eq_nil_of_length_eq_zero HR.out.2.1.symm
          have HC9 := Aside0.mk hC9
          have HLN := Aside0.mk hln
          clear hC9 hln hend hgo
          cases hm : may ls with
          | true =>
            rw [if_pos ⟨rfl, hb2, hm⟩] at hde
            rw [hde] at hres
            obtain ⟨rfl, rfl⟩ : r = ls ∧ ec = 0 := by
              rcases hres with ⟨h, h2⟩ | ⟨h, _⟩
              · injection h with h; exact ⟨h.symm, h2⟩
              · cases h
            have HM := Aside0.mk hm
            clear hres hde hm hb2
            go_wp2_with (first | (go_at_call 13; go_must (refine (MayP wr A9 ln c9 r HC9.out HLN.out hc9 true HM.out).mono ?_; rintro e w9 ⟨rfl, p1⟩; have P9 := Aside0.mk p1; clear p1)))
            go_ret2
            exact ⟨_, rfl, Sep.init (L := [rowT k42 TP w.heap.size (.slice A9 ln c9) r]) (HS.out.later P9.out)⟩
          | false =>
            rw [if_neg (by simp [hm])] at hde
            rw [hde] at hres
            obtain ⟨rfl, rfl⟩ : r = [] ∧ ec = 2 := by
              rcases hres with ⟨h, _⟩ | ⟨_, h1, h2⟩
              · cases h
              · exact ⟨h1, h2⟩
            have HM := Aside0.mk hm
            clear hres hde hm hb2
            go_wp2_with (first | (go_at_call 13; go_must (refine (MayP wr A9 ln c9 ls HC9.out HLN.out hc9 false HM.out).mono ?_; rintro e w9 ⟨rfl, p1⟩; have P9 := Aside0.mk p1; clear p1)))
            go_ret2
            exact ⟨_, rfl, (Sep.start (HS.out.later P9.out).below).empty k42 TP w.heap.size⟩
end Go.Proofs.Ytpebemljgeammab.Pf
