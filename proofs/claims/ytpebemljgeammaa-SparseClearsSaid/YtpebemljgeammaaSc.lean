/-
  SparseClears: its walk.
-/
import Derived.Test.YtpebemljgeammaaSf
import Derived.Test.YtpebemljgeammaaSb
import Derived.Test.YtpebemljgeammaaSgint
import Derived.Test.YtpebemljgeammaaStint
import Derived.Test.YtpebemljgeammaaSrint
namespace Go.Proofs.Ytpebemljgeammaa.Sc
set_option linter.unusedVariables false
set_option linter.unusedSimpArgs false
open Go.RowKit Go.Proofs.YtpebemljgeammaaW.PrintWords Go.Proofs.Ytpebemljgeammaa.Hp Go.Proofs.Ytpebemljgeammaa.Sp0 Go.Proofs.Ytpebemljgeammaa.Fa
open Go.Proofs.Ytpebemljgeammaa.Sb (addK)
open Go.Proofs.Ytpebemljgeammaa.Spint

abbrev no : Nat → Prop := fun _ => False
abbrev TI : Nat := 3
def two (g1 g2 : Nat) (xs ys : List Int) : List Sig := [sig g1 xs, sig g2 ys]

theorem ClearF {w0 w : World} {N : Nat} {L : List Sig} {R : Nat → Prop} (h : Fam w0 N L R w) (hR : ∀ b, R b → b < w.heap.size) (i : Nat) {g : Nat} {xs : List Int} (hi : L[i]? = some (sig g xs)) :
    Calls Try.prog 37 #[.pointer (some ⟨g, 0, none⟩)] w fun e w' => e = .returned (.tuple #[]) ∧ Aside0 (Fam w0 N (L.set i (sig g [])) R w' ∧ ∀ b, R b → w'.heap[b]? = w.heap[b]?) := by
  obtain ⟨ok, s, u⟩ := h.get hR i _ hi
  refine (Clear w _ g ok N xs s).mono ?_
  rintro e w' ⟨rfl, q1, q2⟩
  exact ⟨rfl, ⟨u w' _ _ (fun b hb => .inl hb) q1 q2⟩⟩
theorem LenF {w0 w : World} {N : Nat} {L : List Sig} {R : Nat → Prop} (h : Fam w0 N L R w) (i : Nat) {g : Nat} {xs : List Int} (hi : L[i]? = some (sig g xs)) :
    Calls Try.prog 38 #[.pointer (some ⟨g, 0, none⟩)] w fun e w' => e = .returned (.int .i64 xs.length) ∧ w = w' := by
  obtain ⟨ok, s⟩ := h.one i _ hi
  exact Len w _ g ok N xs s

/-- The old list, with its first places written over. -/
def Old (w0 : World) (g : Nat) (c len : Nat) (w : World) : Prop := ∃ ys : List Int, ys.length = len ∧ w.ownsRow w0.heap.size TI 1 (.slice (some ⟨g, 0, none⟩) len c) len (nums .i64 ys)

set_option maxRecDepth 100000 in
set_option maxHeartbeats 8000000 in
theorem walk (w : World) (A : Option Addr) (n c : Nat) (A2 : Option Addr) (n2 c2 : Nat) (size : Int) (l l2 : List Int) (hs : (Lit.int .i64 size).wf = true) (hA : ReadsInt w .i64 A n l) (hwf : ∀ x, x ∈ l → (Lit.int .i64 x).wf = true) (hA2 : ReadsInt w .i64 A2 n2 l2) (hwf2 : ∀ x, x ∈ l2 → (Lit.int .i64 x).wf = true) :
    Calls Try.prog 5 #[.int .i64 size, .slice A n c, .slice A2 n2 c2] w fun e w' => e = .returned (.bool true) ∧ Below w.heap.size w w' := by
  have hm := hA.2.1
  have hl := hA.1
  have hm2 := hA2.2.1
  have hl2 := hA2.1
  have HA := Aside0.mk hA
  have HL := Aside0.mk hl
  have HW := Aside0.mk hwf
  have HA2 := Aside0.mk hA2
  have HL2 := Aside0.mk hl2
  have HW2 := Aside0.mk hwf2
  clear hA hl hwf hA2 hl2 hwf2
  go_enter Try.func5, Try.ntmps5
  go_wp2_with (first | (go_at_call 15; refine (Sf.fixed w).mono ?_; rintro e w1 ⟨rfl, h1⟩; have H1 := Aside0.mk h1; have T0 := Aside0.mk h1; clear h1) | (go_at_call 22; have t0 := T0.out; refine (New _ size hs).mono ?_; rintro e w2 ⟨g1, rfl, p1, p2⟩; have F1 := Aside0.mk ((Fam.nil w1 (setSize size) no).new (by simp) p1 p2); clear p1 p2 T0 t0) | (go_at_call 22; refine (New _ size hs).mono ?_; rintro e w3 ⟨g2, rfl, p1, p2⟩; have F2 := Aside0.mk (F1.out.new (by simp) p1 p2); clear p1 p2 F1))
  go_loopw [28] (fun i wr => ∃ k : Nat, k ≤ n ∧ i = .int .i64 k ∧ Aside0 (Fam w1 (setSize size) (two g1 g2 (addK (setSize size) l k) []) no wr)) (fun i _ => n - (intOf i).toNat)
  case atStart => exact ⟨0, Nat.zero_le _, rfl, ⟨F2.out⟩⟩
  case round =>
    obtain ⟨k, hk, rfl, HI⟩ := hrel
    by_cases hlt : k < n
    · have hd : decide (k < n) = true := by simpa using hlt
      have hbl : Below w.heap.size w wr := below_then H1.out H1.out.size HI.out.below
      obtain ⟨a1, rfl, hc1⟩ := Sn.rd_at (HA.out.below hbl) k hlt
      obtain ⟨v, hv⟩ : ∃ v, v = l.getD k 0 := ⟨_, rfl⟩
      rw [← hv] at hc1
      have hvw : (Lit.int .i64 v).wf = true := HW.out v (by rw [hv, List.getD_eq_getElem?_getD, List.getElem?_eq_getElem (by have := HL.out; omega)]; exact List.getElem_mem _)
      have HVW := Aside0.mk hvw
      have HX := Aside0.mk (show addK (setSize size) l (k + 1) = addL (setSize size) (addK (setSize size) l k) v by simp only [addK, ← hv])
      clear hbl hv hvw
      go_wp2_with (go_at_call 26; go_must (refine (AddF HI.out (by simp) 0 rfl HVW.out _ rfl).mono ?_; rintro e w2 ⟨rfl, ⟨q, _⟩⟩; have I1 := Aside0.mk q; clear q))
      go_roundw
      case rel => exact ⟨k + 1, by omega, by go_num, ⟨by rw [HX.out]; exact I1.out⟩⟩
      case measure => simp [intOf]; omega
    · have hd : decide (k < n) = false := by simpa using hlt
      obtain rfl : k = n := by omega
      obtain ⟨xs, hxs⟩ : ∃ xs, xs = addK (setSize size) l k := ⟨_, rfl⟩
      rw [← hxs] at HI
      have hln : xs.length ≤ 65536 := by
        obtain ⟨ok, s⟩ := HI.out.one 0 _ rfl
        have h2 : xs.length ≤ setSize size := s.facts.2.1
        have h3 : setSize size ≤ 65536 := s.facts.1
        omega
      have hxw : ∀ x, x ∈ xs → (Lit.int .i64 x).wf = true := fun x hx => by
        obtain ⟨ok, s⟩ := HI.out.one 0 _ rfl
        have h := s.facts.2.2.2.2.2.1 x hx
        have h3 : setSize size ≤ 65536 := s.facts.1
        simp [Lit.wf, IntKind.min, IntKind.max, IntKind.signed, IntKind.bits]
        omega
      have HXW := Aside0.mk hxw
      clear hxs hxw
      have hbe : ((0 : Int) != 0) = false := by simp
      have HI0 := Aside0.mk (HI.out.free (fun b => wr.heap.size ≤ b) (fun b h => .inr h))
      have HBW := Aside0.mk (HI.out.below)
      clear HI
      go_wp2_with (first | (go_at_call 34; have t0 := HI0.out; refine (ValF t0 0 rfl).mono ?_; rintro e w2 ⟨B1, c1, rfl, q1, q2, q3⟩; have O1 := Aside0.mk q1; have I1 := Aside0.mk (q2.free (fun b => (Value.slice B1 xs.length c1).ownBlock = some b) (fun b hb => .inl (own_base q1 b hb))); clear q1 q2 q3 HI0 t0) | (go_at_call 37; go_must (refine (ClearF I1.out (fun b hb => own_lt O1.out b hb) 0 rfl).mono ?_; rintro e w3 ⟨rfl, ⟨q, q2⟩⟩; have I2 := Aside0.mk q; have O2 := Aside0.mk (own_move O1.out q2); clear q q2)) | (go_at_call 38; go_must (refine (LenF I2.out 0 rfl).mono ?_; rintro e w4 ⟨rfl, rfl⟩)))
      go_wp2_with (go_at_call 34; have t0 := I2.out; refine (ValF t0 0 rfl).mono ?_; rintro e w5 ⟨B5, c5, rfl, q1, q2, q3⟩; have I3 := Aside0.mk q2; have O3 := Aside0.mk (pw_own_below O2.out q3); clear q1 q2 q3 I2 t0)
      go_loop [51] (fun j => ∃ m : Nat, m ≤ xs.length ∧ j = .int .i64 m) (fun j => xs.length - (intOf j).toNat)
      case atStart => exact ⟨0, Nat.zero_le _, rfl⟩
      case round =>
        obtain ⟨m, hmm, rfl⟩ := hrel
        by_cases hlm : m < xs.length
        · have hd2 : decide (m < xs.length) = true := by simpa using hlm
          obtain ⟨b1, rfl, hb1⟩ := Sn.rd_at (own_reads' O3.out) m hlm
          obtain ⟨y, hy⟩ : ∃ y, y = xs.getD m 0 := ⟨_, rfl⟩
          have hmem : y ∈ xs := by rw [hy, List.getD_eq_getElem?_getD, List.getElem?_eq_getElem hlm]; exact List.getElem_mem _
          have HYW := Aside0.mk (HXW.out y hmem)
          rw [← hy] at hb1
          clear hy hmem
          go_wp2_with (go_at_call 30; go_must (refine (HasF I3.out 0 rfl HYW.out false (by simp)).mono ?_; rintro e w6 ⟨rfl, rfl⟩))
          go_round
          case rel => exact ⟨m + 1, by omega, by go_num⟩
          case measure => simp [intOf]; omega
        · have hd2 : decide (m < xs.length) = false := by simpa using hlm
          go_wp2
          go_loopw [61] (fun j wr => ∃ m : Nat, m ≤ xs.length ∧ j = .int .i64 m ∧ Aside0 (∃ ys : List Int, ys.length = xs.length ∧ wr.ownsRow w1.heap.size TI 1 (.slice B1 xs.length c1) xs.length (nums .i64 ys)) ∧ Aside0 (Fam w1 (setSize size) (two g1 g2 [] []) (fun b => (Value.slice B1 xs.length c1).ownBlock = some b) wr)) (fun j _ => xs.length - (intOf j).toNat)
          case atStart => exact ⟨0, Nat.zero_le _, rfl, ⟨xs, rfl, own_weaken O3.out HBW.out.size⟩, ⟨I3.out⟩⟩
          case round =>
            clear hmm hlm hd2
            obtain ⟨m2, hmm, rfl, J1, J2⟩ := hrel
            by_cases hlm : m2 < xs.length
            · have hd2 : decide (m2 < xs.length) = true := by simpa using hlm
              obtain ⟨ys, hys, hown⟩ := J1.out
              obtain ⟨g, cap, he, hbg, _⟩ := hown.form (by omega)
              injection he with he _ _
              subst he
              have ha := own_at hown (m2 : Int) (by omega) (by omega)
              have hst := own_store hown (m2 : Int) (-7)
              rw [Int.toNat_natCast] at ha hst
              obtain ⟨hca, hfa⟩ := ha
              have K1 := Aside0.mk hst.1
              have K2 := Aside0.mk (Fam.chg J2.out ((Chg.refl (fun b => b = g) _).setCell (p := ⟨g, m2, none⟩) (.inl rfl) (.int .i64 (-7))) (fun b hb _ => ⟨by rw [hb]; rfl, by rw [hb]; exact hbg⟩))
              clear hst hown J1 J2
              obtain ⟨z, hz⟩ : ∃ z, z = rd ys m2 := ⟨_, rfl⟩
              rw [← hz] at hca
              clear hz
              go_wp2
              go_roundw
              case rel => exact ⟨m2 + 1, by omega, by go_num, ⟨_, by simpa using hys, K1.out⟩, ⟨K2.out⟩⟩
              case measure => simp [intOf]; omega
            · have hd2 : decide (m2 < xs.length) = false := by simpa using hlm
              have J3 := Aside0.mk (J2.out.free no (fun b h => h.elim))
              clear J1 J2 I3 O3
              go_wp2
              rename_i wo
              go_loopw [70] (fun i wr => ∃ k2 : Nat, k2 ≤ n2 ∧ i = .int .i64 k2 ∧ Aside0 (Fam w1 (setSize size) (two g1 g2 (addK (setSize size) l2 k2) (addK (setSize size) l2 k2)) no wr)) (fun i _ => n2 - (intOf i).toNat)
              case atStart => exact ⟨0, Nat.zero_le _, rfl, ⟨J3.out⟩⟩
              case round =>
                clear hmm hlm hd2 J3
                obtain ⟨k2, hk2, rfl, HI⟩ := hrel
                by_cases hlt : k2 < n2
                · have hd2 : decide (k2 < n2) = true := by simpa using hlt
                  have hbl : Below w.heap.size w wr := below_then H1.out H1.out.size HI.out.below
                  obtain ⟨a1, rfl, hc1⟩ := Sn.rd_at (HA2.out.below hbl) k2 hlt
                  obtain ⟨v, hv⟩ : ∃ v, v = l2.getD k2 0 := ⟨_, rfl⟩
                  rw [← hv] at hc1
                  have hvw : (Lit.int .i64 v).wf = true := HW2.out v (by rw [hv, List.getD_eq_getElem?_getD, List.getElem?_eq_getElem (by have := HL2.out; omega)]; exact List.getElem_mem _)
                  have HVW := Aside0.mk hvw
                  have HX := Aside0.mk (show addK (setSize size) l2 (k2 + 1) = addL (setSize size) (addK (setSize size) l2 k2) v by simp only [addK, ← hv])
                  obtain ⟨xs2, hxs2⟩ : ∃ xs2, xs2 = addK (setSize size) l2 k2 := ⟨_, rfl⟩
                  rw [← hxs2] at HI HX
                  obtain ⟨fin, hfin⟩ : ∃ fin, fin = decide (0 ≤ v ∧ v < setSize size ∧ v ∉ xs2) := ⟨_, rfl⟩
                  obtain ⟨has, hhas⟩ : ∃ has, has = decide (v ∈ addL (setSize size) xs2 v) := ⟨_, rfl⟩
                  have HF := Aside0.mk hfin
                  have HH := Aside0.mk hhas
                  clear hbl hv hvw hxs2 hfin hhas
                  cases fin <;> cases has
                  all_goals
                    go_wp2_with (first | (go_at_call 26; have t0 := HI.out; refine (AddF t0 (by simp) 0 rfl HVW.out _ HF.out).mono ?_; rintro e w7 ⟨rfl, ⟨q, _⟩⟩; have J1 := Aside0.mk q; clear q t0 HI) | (go_at_call 26; refine (AddF J1.out (by simp) 1 rfl HVW.out _ HF.out).mono ?_; rintro e w8 ⟨rfl, ⟨q, _⟩⟩; have J2 := Aside0.mk q; have TK := Aside0.mk q; clear q) | (go_at_call 30; have t0 := TK.out; refine (HasF t0 0 rfl HVW.out _ HH.out).mono ?_; rintro e w9 ⟨rfl, rfl⟩; clear t0 TK) | (go_at_call 30; refine (HasF J2.out 1 rfl HVW.out _ HH.out).mono ?_; rintro e w9 ⟨rfl, rfl⟩))
                    go_roundw
                    case rel => exact ⟨k2 + 1, by omega, by go_num, ⟨by rw [HX.out]; exact J2.out⟩⟩
                    case measure => simp [intOf]; omega
                · have hd2 : decide (k2 < n2) = false := by simpa using hlt
                  obtain rfl : k2 = n2 := by omega
                  obtain ⟨xs2, hxs2⟩ : ∃ xs2, xs2 = addK (setSize size) l2 k2 := ⟨_, rfl⟩
                  rw [← hxs2] at HI
                  clear hxs2
                  go_wp2_with (first | (go_at_call 37; go_must (refine (ClearNil _).mono ?_; rintro e w7 ⟨rfl, rfl⟩)) | (go_at_call 39; go_must (refine (AtNil _ _).mono ?_; rintro e w7 ⟨rfl, rfl⟩)) | (go_at_call 34; have t0 := HI.out; refine (ValF t0 0 rfl).mono ?_; rintro e w7 ⟨B6, c6, rfl, q1, q2, q3⟩; have V1 := Aside0.mk q1; have J1 := Aside0.mk q2; clear q1 q2 q3 t0 HI) | (go_at_call 34; have t0 := J1.out; refine (ValF t0 1 rfl).mono ?_; rintro e w8 ⟨B7, c7, rfl, q1, q2, q3⟩; have V2 := Aside0.mk (own_reads' q1); have V3 := Aside0.mk (own_reads' (pw_own_below V1.out q3)); have J2 := Aside0.mk q2; clear q1 q2 q3 t0 J1) | (go_at_call 18; go_must (refine (Sn.same_true _ _ _ _ _ _ _ _ _ V3.out V2.out rfl).mono ?_; rintro e w9 ⟨rfl, hq⟩; have HQ := Aside0.mk hq; clear hq)) | (go_at_call 26; go_must (refine (AddNil _ _).mono ?_; rintro e w7 ⟨rfl, rfl⟩)) | (go_at_call 30; go_must (refine (HasNil _ _).mono ?_; rintro e w7 ⟨rfl, rfl⟩)) | (go_at_call 38; go_must (refine (LenNil _).mono ?_; rintro e w7 ⟨rfl, rfl⟩)) | (go_at_call 34; have t0 := J2.out; refine (ValuesNil _).mono ?_; rintro e w7 ⟨rfl, rfl⟩))
                  go_ret
                  have b3 := below_then H1.out H1.out.size J2.out.below
                  exact ⟨rfl, below_then b3 b3.size HQ.out.below⟩

/-- The walk, as the row asks for it. -/
theorem law (w : World) (size : Int) (hs : (Lit.int .i64 size).wf = true) (A : Option Addr) (l : List Int) (c : Nat) (hA : (Kd.int .i64).C w A l.length l) (_hc : l.length ≤ c)
    (hwf : ∀ x, x ∈ l → (Lit.int .i64 x).wf = true) (_hb : l.length * 8 ≤ 140737488351232) (A2 : Option Addr) (l2 : List Int) (c2 : Nat) (hA2 : (Kd.int .i64).C w A2 l2.length l2) (_hc2 : l2.length ≤ c2)
    (hwf2 : ∀ x, x ∈ l2 → (Lit.int .i64 x).wf = true) (_hb2 : l2.length * 8 ≤ 140737488351232) :
    Calls Try.prog 5 #[.int .i64 size, .slice A l.length c, .slice A2 l2.length c2] w fun e w' => e = .returned (.bool true) ∧ Below w.heap.size w w' :=
  walk w A l.length c A2 l2.length c2 size l l2 hs (rdint hA) hwf (rdint hA2) hwf2
end Go.Proofs.Ytpebemljgeammaa.Sc
