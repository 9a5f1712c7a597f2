/-
  SparseKinds: its walk.
-/
import Derived.Test.YtpebemljgeammaaSf
import Derived.Test.YtpebemljgeammaaSb
import Derived.Test.YtpebemljgeammaaSgint
import Derived.Test.YtpebemljgeammaaSgint32
import Derived.Test.YtpebemljgeammaaSguint16
import Derived.Test.YtpebemljgeammaaSguint8
import Derived.Test.YtpebemljgeammaaSquint8
import Derived.Test.YtpebemljgeammaaSquint16
import Derived.Test.YtpebemljgeammaaSqint32
import Derived.Test.YtpebemljgeammaaSruint8
namespace Go.Proofs.Ytpebemljgeammaa.Sk
set_option linter.unusedVariables false
set_option linter.unusedSimpArgs false
open Go.RowKit Go.Proofs.YtpebemljgeammaaW.PrintWords Go.Proofs.Ytpebemljgeammaa.Hp Go.Proofs.Ytpebemljgeammaa.Sp0 Go.Proofs.Ytpebemljgeammaa.Fa
open Go.Proofs.Ytpebemljgeammaa.Sb (addK)

def four (g1 g2 g3 g4 : Nat) (xs : List Int) : List Sig := [Spuint8.sig g1 xs, Spuint16.sig g2 xs, Spint32.sig g3 xs, Spint.sig g4 xs]
abbrev no : Nat → Prop := fun _ => False

theorem wfs {v : Int} (h : 0 ≤ v ∧ v ≤ 255) : (Lit.int .u8 v).wf = true ∧ (Lit.int .u16 v).wf = true ∧ (Lit.int .i32 v).wf = true ∧ (Lit.int .i64 v).wf = true := by
  simp [Lit.wf, IntKind.min, IntKind.max, IntKind.signed, IntKind.bits]; omega
theorem addK_ok (N : Nat) (l : List Int) : ∀ k, ∀ x, x ∈ addK N l k → 0 ≤ x ∧ x < N
  | 0 => by simp [addK]
  | k + 1 => by
    intro x hx
    simp only [addK, addL] at hx
    split at hx
    · rename_i hc
      rcases List.mem_append.1 hx with h | h
      · exact addK_ok N l k x h
      · rw [List.mem_singleton.1 h]; exact ⟨hc.1, hc.2.1⟩
    · exact addK_ok N l k x hx
theorem mem_addL {N : Nat} {xs : List Int} {v : Int} (h : ∀ x, x ∈ xs → 0 ≤ x ∧ x < N) (h0 : 0 ≤ v) : decide (v ∈ addL N xs v) = decide (v < (N : Int)) := by
  by_cases hc : 0 ≤ v ∧ v < N ∧ v ∉ xs
  · simp only [addL, if_pos hc]
    simp [hc.2.1]
  · simp only [addL, if_neg hc]
    rw [Bool.eq_iff_iff]
    simp only [decide_eq_true_eq]
    exact ⟨fun hm => (h v hm).2, fun hlt => Decidable.byContradiction (fun hm => hc ⟨h0, hlt, hm⟩)⟩

set_option maxRecDepth 100000 in
set_option maxHeartbeats 8000000 in
theorem walk (w : World) (A : Option Addr) (n c : Nat) (size : Int) (l : List Int) (hs : (Lit.int .u8 size).wf = true) (hA : ReadsInt w .u8 A n l) (hwf : ∀ x, x ∈ l → (Lit.int .u8 x).wf = true) :
    Calls Try.prog 4 #[.int .u8 size, .slice A n c] w fun e w' => e = .returned (.bool true) ∧ Below w.heap.size w w' := by
  have hsb : 0 ≤ size ∧ size ≤ 255 := by simpa [Lit.wf, IntKind.min, IntKind.max, IntKind.signed, IntKind.bits] using hs
  obtain ⟨hs0, hs1⟩ := hsb
  have hs64 := (wfs ⟨hs0, hs1⟩).2.2.2
  have hset : (setSize size : Int) = size := by unfold setSize; omega
  have HSET := Aside0.mk hset
  have hm := hA.2.1
  have hl := hA.1
  have HA := Aside0.mk hA
  have HL := Aside0.mk hl
  have HW := Aside0.mk hwf
  clear hA hl hwf hset
  go_enter Try.func4, Try.ntmps4
  go_wp2_with (first | (go_at_call 15; refine (Sf.fixed w).mono ?_; rintro e w1 ⟨rfl, h1⟩; have H1 := Aside0.mk h1; clear h1) | (go_at_call 19; go_must (refine (Spuint8.New _ size hs64).mono ?_; rintro e w2 ⟨g1, rfl, p1, p2⟩; have F1 := Aside0.mk ((Fam.nil w1 (setSize size) no).new (by simp) p1 p2); clear p1 p2)) | (go_at_call 20; go_must (refine (Spuint16.New _ size hs64).mono ?_; rintro e w3 ⟨g2, rfl, p1, p2⟩; have F2 := Aside0.mk (F1.out.new (by simp) p1 p2); clear p1 p2 F1)) | (go_at_call 21; go_must (refine (Spint32.New _ size hs64).mono ?_; rintro e w4 ⟨g3, rfl, p1, p2⟩; have F3 := Aside0.mk (F2.out.new (by simp) p1 p2); clear p1 p2 F2)) | (go_at_call 22; go_must (refine (Spint.New _ size hs64).mono ?_; rintro e w5 ⟨g4, rfl, p1, p2⟩; have F4 := Aside0.mk (F3.out.new (by simp) p1 p2); clear p1 p2 F3)))
  go_loopw [36] (fun i wr => ∃ k : Nat, k ≤ n ∧ i = .int .i64 k ∧ Aside0 (Fam w1 (setSize size) (four g1 g2 g3 g4 (addK (setSize size) l k)) no wr)) (fun i _ => n - (intOf i).toNat)
  case atStart => exact ⟨0, Nat.zero_le _, rfl, ⟨F4.out⟩⟩
  case round =>
    obtain ⟨k, hk, rfl, HI⟩ := hrel
    by_cases hlt : k < n
    · have hd : decide (k < n) = true := by simpa using hlt
      have hbl : Below w.heap.size w wr := below_then H1.out H1.out.size HI.out.below
      obtain ⟨a1, rfl, hc1⟩ := Sn.rd_at (HA.out.below hbl) k hlt
      obtain ⟨v, hv⟩ : ∃ v, v = l.getD k 0 := ⟨_, rfl⟩
      rw [← hv] at hc1
      have hvw : (Lit.int .u8 v).wf = true := HW.out v (by rw [hv, List.getD_eq_getElem?_getD, List.getElem?_eq_getElem (by have := HL.out; omega)]; exact List.getElem_mem _)
      have hvb : 0 ≤ v ∧ v ≤ 255 := by simpa [Lit.wf, IntKind.min, IntKind.max, IntKind.signed, IntKind.bits] using hvw
      have HVW := Aside0.mk (wfs hvb)
      obtain ⟨hv0, hv1⟩ := hvb
      obtain ⟨xs, hxs⟩ : ∃ xs, xs = addK (setSize size) l k := ⟨_, rfl⟩
      have hok := addK_ok (setSize size) l k
      rw [← hxs] at HI hok
      have hmem := mem_addL hok hv0
      rw [HSET.out] at hmem
      obtain ⟨fin, hfin⟩ : ∃ fin, fin = decide (0 ≤ v ∧ v < setSize size ∧ v ∉ xs) := ⟨_, rfl⟩
      have HF := Aside0.mk hfin
      have HM := Aside0.mk hmem
      have HX := Aside0.mk (show addK (setSize size) l (k + 1) = addL (setSize size) xs v by simp only [addK, ← hxs, ← hv])
      clear hbl hv hvw hxs hok hmem hfin
      obtain ⟨lt, hlt2⟩ : ∃ lt, lt = decide (v < size) := ⟨_, rfl⟩
      have HLT := Aside0.mk hlt2
      rw [← hlt2] at HM
      have hcmp := hlt2.symm
      clear hlt2
      cases fin <;> cases lt
      all_goals
        go_wp2_with (first | (go_at_call 23; go_must (refine (Spuint8.AddF HI.out (by simp) 0 rfl HVW.out.1 _ HF.out).mono ?_; rintro e w2 ⟨rfl, ⟨q, _⟩⟩; have I1 := Aside0.mk q; clear q)) | (go_at_call 24; go_must (refine (Spuint16.AddF I1.out (by simp) 1 rfl HVW.out.2.1 _ HF.out).mono ?_; rintro e w3 ⟨rfl, ⟨q, _⟩⟩; have I2 := Aside0.mk q; clear q I1)) | (go_at_call 25; go_must (refine (Spint32.AddF I2.out (by simp) 2 rfl HVW.out.2.2.1 _ HF.out).mono ?_; rintro e w4 ⟨rfl, ⟨q, _⟩⟩; have I3 := Aside0.mk q; clear q I2)) | (go_at_call 26; go_must (refine (Spint.AddF I3.out (by simp) 3 rfl HVW.out.2.2.2 _ HF.out).mono ?_; rintro e w5 ⟨rfl, ⟨q, _⟩⟩; have I4 := Aside0.mk (show Fam w1 (setSize size) (four g1 g2 g3 g4 (addL (setSize size) xs v)) no w5 from q); clear q I3)) | (go_at_call 27; go_must (refine (Spuint8.HasF I4.out 0 rfl HVW.out.1 _ HM.out.symm).mono ?_; rintro e w6 ⟨rfl, rfl⟩)) | (go_at_call 28; go_must (refine (Spuint16.HasF I4.out 1 rfl HVW.out.2.1 _ HM.out.symm).mono ?_; rintro e w6 ⟨rfl, rfl⟩)) | (go_at_call 29; go_must (refine (Spint32.HasF I4.out 2 rfl HVW.out.2.2.1 _ HM.out.symm).mono ?_; rintro e w6 ⟨rfl, rfl⟩)) | (go_at_call 30; go_must (refine (Spint.HasF I4.out 3 rfl HVW.out.2.2.2 _ HM.out.symm).mono ?_; rintro e w6 ⟨rfl, rfl⟩)))
        go_roundw
        case rel => exact ⟨k + 1, by omega, by go_num, ⟨by rw [HX.out]; exact I4.out⟩⟩
        case measure => simp [intOf]; omega
    · have hd : decide (k < n) = false := by simpa using hlt
      obtain rfl : k = n := by omega
      have hok := addK_ok (setSize size) l k
      obtain ⟨xs, hxs⟩ : ∃ xs, xs = addK (setSize size) l k := ⟨_, rfl⟩
      rw [← hxs] at HI hok
      have hln : xs.length ≤ 65536 := by
        obtain ⟨ok, s⟩ := HI.out.one 0 _ rfl
        have h2 : xs.length ≤ setSize size := s.facts.2.1
        have h3 : setSize size ≤ 65536 := s.facts.1
        omega
      have HOK := Aside0.mk hok
      clear hxs hok
      go_wp2_with (first | (go_at_call 31; go_must (refine (Spuint8.ValF HI.out 0 rfl).mono ?_; rintro e w2 ⟨B1, c1, rfl, q1, q2, q3⟩; have O1 := Aside0.mk (own_reads' q1); have I1 := Aside0.mk q2; have D1 := Aside0.mk q3; clear q1 q2 q3))         | (go_at_call 32; go_must (refine (Spuint16.ValF I1.out 1 rfl).mono ?_; rintro e w3 ⟨B2, c2, rfl, q1, q2, q3⟩; have O2 := Aside0.mk (own_reads' q1); have I2 := Aside0.mk q2; have D2 := Aside0.mk q3; clear q1 q2 q3))         | (go_at_call 33; go_must (refine (Spint32.ValF I2.out 2 rfl).mono ?_; rintro e w4 ⟨B3, c3, rfl, q1, q2, q3⟩; have O3 := Aside0.mk (own_reads' q1); have I3 := Aside0.mk q2; have D3 := Aside0.mk q3; clear q1 q2 q3))         | (go_at_call 34; go_must (refine (Spint.ValF I3.out 3 rfl).mono ?_; rintro e w5 ⟨B4, c4, rfl, q1, q2, q3⟩; have O4 := Aside0.mk (own_reads' q1); have I4 := Aside0.mk q2; have D4 := Aside0.mk q3; clear q1 q2 q3))         | (go_at_call 35; go_must (obtain ⟨ok, s⟩ := I4.out.one 0 _ rfl; refine (Spuint8.Len _ _ g1 ok _ xs s).mono ?_; rintro e w6 ⟨rfl, rfl⟩)))
      have e2 := Aside0.mk (O3.out.below D4.out)
      have e3 := Aside0.mk ((O2.out.below D3.out).below D4.out)
      have e4 := Aside0.mk (((O1.out.below D2.out).below D3.out).below D4.out)
      go_loop [141] (fun j => ∃ m : Nat, m ≤ xs.length ∧ j = .int .i64 m) (fun j => xs.length - (intOf j).toNat)
      case atStart => exact ⟨0, Nat.zero_le _, rfl⟩
      case round =>
        obtain ⟨m, hmm, rfl⟩ := hrel
        by_cases hlm : m < xs.length
        · have hd2 : decide (m < xs.length) = true := by simpa using hlm
          obtain ⟨b1, rfl, hb1⟩ := Sn.rd_at e4.out m hlm
          obtain ⟨b2, rfl, hb2⟩ := Sn.rd_at e3.out m hlm
          obtain ⟨b3, rfl, hb3⟩ := Sn.rd_at e2.out m hlm
          obtain ⟨b4, rfl, hb4⟩ := Sn.rd_at O4.out m hlm
          obtain ⟨y, hy⟩ : ∃ y, y = xs.getD m 0 := ⟨_, rfl⟩
          have hmem : y ∈ xs := by rw [hy, List.getD_eq_getElem?_getD, List.getElem?_eq_getElem hlm]; exact List.getElem_mem _
          have hy0 := HOK.out y hmem
          rw [HSET.out] at hy0
          have hy2 : 0 ≤ y ∧ y ≤ 255 := by omega
          obtain ⟨hya, hyb⟩ := hy2
          obtain ⟨ok, s⟩ := I4.out.one 0 _ rfl
          have hat := Spuint8.At w5 w1.heap.size g1 ok (setSize size) xs m (by simp [Lit.wf, IntKind.min, IntKind.max, IntKind.signed, IntKind.bits]; omega) s
          have hat2 : Calls Try.prog 36 #[.pointer (some ⟨g1, 0, none⟩), .int .i64 m] w5 fun e w' => e = .returned (.tuple #[.int .u8 y, .bool true]) ∧ w5 = w' := by
            rw [if_pos (by omega), decide_eq_true (show (0 ≤ (m : Int) ∧ (m : Int) < xs.length) by omega), Int.toNat_natCast, ← hy] at hat
            exact hat
          rw [← hy] at hb1 hb2 hb3 hb4
          have HAT := Aside0.mk hat2
          have hbn : (y != y) = false := by simp
          clear hat hat2 hy hmem s hy0
          go_wp2_with (go_at_call 36; go_must (refine HAT.out.mono ?_; rintro e w6 ⟨rfl, rfl⟩))
          go_round
          case rel => exact ⟨m + 1, by omega, by go_num⟩
          case measure => simp [intOf]; omega
        · have hd2 : decide (m < xs.length) = false := by simpa using hlm
          have hneg : (-1 : Int) ∉ xs := fun h => by have := HOK.out _ h; omega
          have hw1 : (Lit.int .i32 (-1)).wf = true := by decide
          have hw2 : (Lit.int .i64 (-1)).wf = true := by decide
          have HW1 := Aside0.mk hw1
          have HW2 := Aside0.mk hw2
          have HH := Aside0.mk (show false = decide ((-1 : Int) ∈ xs) by simpa using hneg)
          have HAD := Aside0.mk (show false = decide (0 ≤ (-1 : Int) ∧ (-1 : Int) < setSize size ∧ (-1 : Int) ∉ xs) by simp)
          clear hneg hw1 hw2
          go_wp2_with (first | (go_at_call 29; go_must (refine (Spint32.HasF I4.out 2 rfl HW1.out _ HH.out).mono ?_; rintro e w6 ⟨rfl, rfl⟩))             | (go_at_call 25; go_must (refine (Spint32.AddF I4.out (by simp) 2 rfl HW1.out _ HAD.out).mono ?_; rintro e w7 ⟨rfl, ⟨q, _⟩⟩; have I5 := Aside0.mk q; clear q))             | (go_at_call 26; go_must (refine (Spint.AddF I5.out (by simp) 3 rfl HW2.out _ HAD.out).mono ?_; rintro e w8 ⟨rfl, ⟨q, _⟩⟩; have I6 := Aside0.mk q; clear q)))
          go_ret
          exact ⟨rfl, below_then H1.out H1.out.size I6.out.below⟩

/-- The walk, as the row asks for it. -/
theorem law (w : World) (size : Int) (hs : (Lit.int .u8 size).wf = true) (A : Option Addr) (l : List Int) (c : Nat) (hA : (Kd.int .u8).C w A l.length l) (_hc : l.length ≤ c)
    (hwf : ∀ x, x ∈ l → (Lit.int .u8 x).wf = true) (_hb : l.length * 1 ≤ 140737488351232) :
    Calls Try.prog 4 #[.int .u8 size, .slice A l.length c] w fun e w' => e = .returned (.bool true) ∧ Below w.heap.size w w' :=
  walk w A l.length c size l hs (rdint hA) hwf
end Go.Proofs.Ytpebemljgeammaa.Sk
