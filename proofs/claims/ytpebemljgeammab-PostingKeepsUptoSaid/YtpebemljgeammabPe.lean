/-
  posting.Encode: its closure, then the whole.
-/
import Derived.Test.YtpebemljgeammabPm
import Derived.Test.YtpebemljgeammabPw
namespace Go.Proofs.Ytpebemljgeammab.Pe
set_option linter.unusedVariables false
set_option linter.unusedSimpArgs false
open Go.RowKit Go.Proofs.YtpebemljgeammabW.PrintWords Go.Proofs.Ytpebemljgeammab.Hp Go.Proofs.Ytpebemljgeammab.Fm Go.Proofs.Ytpebemljgeammab.Pn Go.Proofs.Ytpebemljgeammab.Pm Go.Proofs.Ytpebemljgeammab.Pw Go.Proofs.Ytpebemljgeammab.PPostingKeeps

def encA (a : Int) : List Int → List Int
  | [] => []
  | n :: r => num (n - a - 1).toNat ++ encA n r
def encF (d : Int) : List S42 → List Int
  | [] => []
  | p :: r => num (p.f0 - d - 1).toNat ++ num (p.f1.length - 1) ++ encA (-1) p.f1 ++ encF p.f0 r
def encL (l : List S42) : List Int := num l.length ++ encF (-1) l

/-- A block as a thing. -/
def blkT (g : Nat) (cells : Array Value) (t : TypeId) : Th :=
  ⟨fun ok w => ok g ∧ w.heap[g]? = some (.cells cells t (0, 0)), fun h hm => ⟨h.1, (hm g h.1 (blk_lt h.2)).trans h.2⟩, fun h => ⟨⟨h.1, blk_lt h.2⟩, h.2⟩⟩
section
variable {w0 w w' : World} {L : List Th}
theorem sep_blk (h : Sep w0 L w) (i : Nat) {g : Nat} {cells : Array Value} {t : TypeId} (hi : L[i]? = some (blkT g cells t)) : w.heap[g]? = some (.cells cells t (0, 0)) ∧ w0.heap.size ≤ g := by
  obtain ⟨ok, h1, h2, _⟩ := h.op i _ hi
  exact ⟨h1.2, h2 g h1.1⟩
theorem sep_set (h : Sep w0 L w) (i : Nat) {g : Nat} {cells : Array Value} {t : TypeId} (hi : L[i]? = some (blkT g cells t)) (j : Nat) (u : Value) (cells' : Array Value) (hc : (w.setCell ⟨g, j, none⟩ u).heap[g]? = some (.cells cells' t (0, 0))) :
    Sep w0 (L.set i (blkT g cells' t)) (w.setCell ⟨g, j, none⟩ u) := by
  obtain ⟨ok, h1, h2, h3⟩ := h.op i _ hi
  exact h3 _ (blkT g cells' t) ok ⟨h1.1, hc⟩ (fun b hb => .inl hb) ((Chg.refl ok w).setCell (p := ⟨g, j, none⟩) (.inl h1.1) u)
theorem sep_new (h : Sep w0 L w) (cells : Array Value) (t : TypeId) : Sep w0 (L ++ [blkT w.heap.size cells t]) (w.alloc (.cells cells t)) :=
  h.new (blkT w.heap.size cells t) (ok := fun b => b = w.heap.size) ⟨rfl, heap_alloc_new w _⟩ (fun b hb => by rw [hb]; exact Nat.le_refl _) (below_alloc (Below.refl _ _) _)

theorem put_facts {i j g : Nat} {v v1 : Value} {xs ys : List Int} {t : TypeId} {w1 : World} (hij : i ≠ j) (hi : L[i]? = some (rowT KB 5 w0.heap.size v xs)) (hj : L[j]? = some (blkT g #[v] t)) (p1 : Sep w0 (L.set i (rowT KB 5 w0.heap.size v1 ys)) w1) :
    ∃ A1 c1, v1 = .slice A1 ys.length c1 ∧ w1.heap[g]? = some (.cells #[v] t (0, 0)) ∧ (L.set i (rowT KB 5 w0.heap.size v1 ys))[j]? = some (blkT g #[v] t) := by
  have hj1 : (L.set i (rowT KB 5 w0.heap.size v1 ys))[j]? = some (blkT g #[v] t) := (List.getElem?_set_ne hij).trans hj
  obtain ⟨A1, c1, e, -, -⟩ := p1.reads i (List.getElem?_set_self (List.getElem?_eq_some_iff.1 hi).1)
  exact ⟨A1, c1, e, (sep_blk p1 j hj1).1, hj1⟩
set_option maxRecDepth 100000 in
set_option maxHeartbeats 1000000 in
theorem PutS (h : Sep w0 L w) (i j : Nat) (hij : i ≠ j) {v : Value} {xs : List Int} (hi : L[i]? = some (rowT KB 5 w0.heap.size v xs)) {g : Nat} (hj : L[j]? = some (blkT g #[v] 22)) (N : Nat) (hN : N < 9223372036854775808) (hlen : xs.length + (num N).length ≤ 140737488355328) :
    Calls Try.prog 22 #[.int .i64 N, .pointer (some ⟨g, 0, none⟩)] w fun e w' => e = .returned (.tuple #[]) ∧ ∃ v', Sep w0 ((L.set i (rowT KB 5 w0.heap.size v' (xs ++ num N))).set j (blkT g #[v'] 22)) w' := by
  obtain ⟨A, c, rfl, -, -⟩ := h.reads i hi
  have hb := (sep_blk h j hj).1
  have hc0 := blk_cell hb 0
  have hf0 := blk_frozen hb 0
  have hgl := blk_lt hb
  have H := Aside0.mk h
  have HI := Aside0.mk hi
  have HJ := Aside0.mk hj
  have HLEN := Aside0.mk hlen
  have hwr : IntKind.u64.wrap (N : Int) = (N : Int) := by
    have e : ∀ n : Int, IntKind.u64.wrap n = n % 18446744073709551616 := fun n => by simp [IntKind.wrap, IntKind.bits, IntKind.signed]
    rw [e]; omega
  clear h hi hj hlen hb
  go_enter Try.func22, Try.ntmps22
  go_wp2_with (first | (go_at_call 23; go_must (refine (AppS H.out i HI.out N (by omega) HLEN.out).mono ?_; rintro e w1 ⟨v1, rfl, p1⟩; obtain ⟨A1, c1, rfl, hb1, hj1⟩ := put_facts hij HI.out HJ.out p1; have hc1 := blk_cell hb1 0; have hf1 := blk_frozen hb1 0; have hgl1 := blk_lt hb1; have P1 := Aside0.mk p1; have HJ1 := Aside0.mk hj1; have HB1 := Aside0.mk hb1; clear p1 hj1 hb1)))
  go_end0
  exact ⟨rfl, (.slice A1 (xs.length + (num N).length) c1), by
    have hp := sep_set P1.out j HJ1.out 0 (.slice A1 (xs.length + (num N).length) c1) _ (one_setCell HB1.out)
    rw [List.length_append] at hp
    exact hp⟩
theorem PutZ (h : Sep w0 L w) (i j : Nat) (hij : i ≠ j) {v : Value} {xs : List Int} (hi : L[i]? = some (rowT KB 5 w0.heap.size v xs)) {g : Nat} (hj : L[j]? = some (blkT g #[v] 22)) (z : Int) (hz : 0 ≤ z ∧ z < 9223372036854775808) (hlen : xs.length + (num z.toNat).length ≤ 140737488355328) :
    Calls Try.prog 22 #[.int .i64 z, .pointer (some ⟨g, 0, none⟩)] w fun e w' => e = .returned (.tuple #[]) ∧ ∃ v', Sep w0 ((L.set i (rowT KB 5 w0.heap.size v' (xs ++ num z.toNat))).set j (blkT g #[v'] 22)) w' := by
  have := PutS h i j hij hi hj z.toNat (by omega) hlen
  rw [Int.toNat_of_nonneg hz.1] at this
  exact this
end
theorem posts_at {w : World} {A : Option Addr} {n : Nat} {l : List S42} (h : Kd.C k42 w A n l) (j : Nat) (hj : j < n) :
    ∃ ad A1 c1, A = some ad ∧ w.cell? (ad.add (j * 2)) = some (.int .i64 (rd_T42 l j).f0) ∧ w.cell? ⟨(ad.add (j * 2)).block, (ad.add (j * 2)).off + 1, none⟩ = some (.slice A1 (rd_T42 l j).f1.length c1) ∧ (rd_T42 l j).f1.length ≤ c1 ∧ (Kd.int .i64).C w A1 (rd_T42 l j).f1.length (rd_T42 l j).f1 := by
  have := at_T42 h (j : Int) (by omega) (by omega)
  rw [Int.toNat_natCast] at this
  exact this
theorem intC {w : World} {k : IntKind} {A : Option Addr} {n : Nat} {xs : List Int} (h : (Kd.int k).C w A n xs) (j : Nat) (hj : j < n) : ∃ ad, A = some ad ∧ w.cell? (ad.add j) = some (.int k (rd xs j)) := by
  obtain ⟨ad, e, hc⟩ := Go.Proofs.Ytpebemljgeammab.Pw.rd_at' (rdint h) j hj
  exact ⟨ad, e, hc⟩
theorem fine_of_C {w : World} {A : Option Addr} {n : Nat} {l : List S42} (h : Kd.C k42 w A n l) : Fine l := by
  have h1 := h.1
  refine ⟨by rw [h1]; exact h.2.1, fun p hp => ?_⟩
  obtain ⟨j, hj, e⟩ := List.getElem_of_mem hp
  obtain ⟨_, A1, c1, _, _, _, _, hC⟩ := posts_at h j (by omega)
  have e2 : rd_T42 l j = p := by rw [← e]; unfold rd_T42; simp [List.getElem?_eq_getElem hj]
  rw [e2] at hC
  exact hC.2.1
theorem MayP (w : World) (A : Option Addr) (n c : Nat) (l : List S42) (hC : Kd.C k42 w A n l) (hn : n = l.length) (hc : n ≤ c) (b : Bool) (hb : may l = b) :
    Calls Try.prog 13 #[.slice A n c] w fun e w' => e = .returned (.bool b) ∧ Below w.heap.size w w' := by
  subst hn
  exact posting_May.calls (sz l + 1) A c l b w hC hc (by rw [may_pure l (fine_of_C hC), hb])
theorem RefMayP (w : World) (A : Option Addr) (n c : Nat) (l : List S42) (hC : Kd.C k42 w A n l) (hn : n = l.length) (hc : n ≤ c) (b : Bool) (hb : may l = b) :
    Calls Try.prog 21 #[.slice A n c] w fun e w' => e = .returned (.bool b) ∧ Drawn0 w w' := by
  subst hn
  exact tremaref14_May.calls (sz l + 1) A c l b w hC hc (by rw [rmay_pure l (fine_of_C hC), hb])
theorem SameP (w : World) (A : Option Addr) (n c : Nat) (l : List S42) (hC : Kd.C k42 w A n l) (hn : n = l.length) (hc : n ≤ c) (A2 : Option Addr) (n2 c2 : Nat) (l2 : List S42) (hC2 : Kd.C k42 w A2 n2 l2) (hn2 : n2 = l2.length) (hc2 : n2 ≤ c2) (b : Bool) (hb : sameL l l2 = b) :
    Calls Try.prog 11 #[.slice A n c, .slice A2 n2 c2] w fun e w' => e = .returned (.bool b) ∧ Drawn0 w w' := by
  subst hn hn2
  exact tremaref14_Same.calls (sz l + 1) A c l A2 c2 l2 b w hC hc hC2 hc2 (by rw [same_pure l l2 (fine_of_C hC), hb])
theorem EncNo (w : World) (A : Option Addr) (n c : Nat) (l : List S42) (hC : Kd.C k42 w A n l) (hn : n = l.length) (hc : n ≤ c) (hm : may l = false) :
    Calls Try.prog 12 #[.slice A n c] w fun e w' => e = .returned (.tuple #[.slice none 0 0, .int .i64 1]) ∧ Below w.heap.size w w' := by
  have HC := Aside0.mk hC
  have HN := Aside0.mk hn
  have HM := Aside0.mk hm
  clear hC hn hm
  go_enter Try.func12, Try.ntmps12
  go_wp2_with (first | (go_at_call 13; go_must (refine (MayP w A n c l HC.out HN.out hc false HM.out).mono ?_; rintro e w1 ⟨rfl, p1⟩; have P1 := Aside0.mk p1; clear p1)))
  go_ret2
  exact ⟨rfl, P1.out⟩
set_option maxRecDepth 100000 in
set_option maxHeartbeats 4000000 in
theorem EncOk (w : World) (A : Option Addr) (n c : Nat) (l : List S42) (hC : Kd.C k42 w A n l) (hn : n = l.length) (hc : n ≤ c) (hm : may l = true) (hlen : (encL l).length ≤ 140737488355328) :
    Calls Try.prog 12 #[.slice A n c] w fun e w' => ∃ v, e = .returned (.tuple #[v, .int .i64 0]) ∧ Sep w [rowT KB 5 w.heap.size v (encL l)] w' := by
  have hF := fine_of_C hC
  have hfin : n ≤ 9223372036854775807 := by rw [hn]; exact hF.1
  have HC := Aside0.mk hC
  have HN := Aside0.mk hn
  have HM := Aside0.mk hm
  have HLEN := Aside0.mk hlen
  have HFI := Aside0.mk hF
  clear hC hn hm hlen hF
  have hu42 := Try.underlying42
  have HL0 := Aside0.mk (show ([] : List Int).length + (num (n : Int).toNat).length ≤ 140737488355328 by
    have h := HLEN.out
    rw [encL, List.length_append, ← HN.out] at h
    simp; omega)
  go_enter Try.func12, Try.ntmps12
  go_wp2_with (first | (go_at_call 13; go_must (refine (MayP w A n c l HC.out HN.out hc true HM.out).mono ?_; rintro e w1 ⟨rfl, p1⟩; have SX := Aside0.mk (sep_new ((Sep.start p1).empty KB 5 w.heap.size) #[.slice none 0 0] 22); clear p1)) | (go_at_call 22; go_must (refine (PutZ SX.out 0 1 (by decide) rfl rfl _ ?hz ?hl).mono ?_; (case hz => first | (constructor <;> omega) | (trace_state; omega)); (case hl => first | exact HL0.out); rintro e w3 ⟨rfl, v3, p3⟩; have SY := Aside0.mk p3; clear p3; clear SX; have SX := Aside0.mk (show Sep w [rowT KB 5 w.heap.size v3 _, blkT _ #[v3] 22] w3 from SY.out); clear SY)))
  obtain ⟨g, hg⟩ : ∃ g, g = w1.heap.size := ⟨_, rfl⟩
  have SX' := Aside0.mk (show Sep w [rowT KB 5 w.heap.size v3 (num n), blkT g #[v3] 22] w3 by rw [hg]; have h := SX.out; rw [List.nil_append, Int.toNat_natCast] at h; exact h)
  rw [← hg]
  clear SX hg HL0
  go_loopw [6, 22] (fun dv iv wr => ∃ (k : Nat) (d : Int) (pre : List Int) (v : Value), k ≤ n ∧ iv = .int .i64 k ∧ dv = .int .i64 d ∧ (-1 ≤ d ∧ d ≤ 2147483647) ∧ Aside0 (mayF d (l.drop k) = true) ∧ Aside0 (encL l = pre ++ encF d (l.drop k)) ∧ Aside0 (Sep w [rowT KB 5 w.heap.size v pre, blkT g #[v] 22] wr)) (fun _ i _ => n - (intOf i).toNat)
  case atStart => exact ⟨0, -1, _, _, Nat.zero_le _, rfl, rfl, by omega, ⟨HM.out⟩, ⟨by rw [encL, ← HN.out]; rfl⟩, SX'⟩
  case round =>
    clear SX'
    obtain ⟨k, d, pre, v, hk, rfl, rfl, hd0, HMF, HE, HS⟩ := hrel
    by_cases hlt : k < n
    · have hd : decide ((k : Int) < (n : Int)) = true := by simp; omega
      obtain ⟨ad, A1, c1, rfl, x0, x1, l1, hC1⟩ := posts_at HC.out k hlt
      have hmf := HMF.out
      have he := HE.out
      have hkl : k < l.length := by rw [← HN.out]; exact hlt
      rw [drop_S hkl, mayF] at hmf
      rw [drop_S hkl, encF] at he
      obtain ⟨p, hp⟩ : ∃ p, p = rd_T42 l k := ⟨_, rfl⟩
      rw [← hp] at x0 x1 l1 hC1 hmf he
      clear hp hkl
      simp only [Bool.and_eq_true, decide_eq_true_eq, Bool.not_eq_true'] at hmf
      obtain ⟨⟨⟨⟨m1, m2⟩, m3⟩, m4⟩, m5⟩ := hmf
      obtain ⟨f0, f1⟩ := p
      simp only at x0 x1 l1 hC1 m1 m2 m3 m4 m5 he
      obtain ⟨q, hq⟩ : ∃ q, q = f1.length := ⟨_, rfl⟩
      have hq1 : 1 ≤ q := by rw [hq]; cases f1 <;> simp_all
      have hq2 : q ≤ 9223372036854775807 := by have := hC1.2.1; rw [← hq] at this; exact this
      rw [← hq] at x1 l1 hC1 he
      have hb := HS.out.below
      have y0 := (hb.cell (World.block_lt_of_cell? w _ x0)).trans x0
      have y1 := (hb.cell (World.block_lt_of_cell? w _ x1)).trans x1
      clear x0 x1 hb m3
      have M4 := Aside0.mk m4
      have M5 := Aside0.mk m5
      have HQ := Aside0.mk hq
      have HC1 := Aside0.mk hC1
      have HE1 := Aside0.mk he
      clear m4 m5 hq hC1 he HMF HE
      have hle := HLEN.out
      rw [HE1.out] at hle
      simp only [List.length_append] at hle
      have HL1 := Aside0.mk (show pre.length + (num (f0 - d - 1).toNat).length ≤ 140737488355328 by omega)
      have HL2 := Aside0.mk (show (pre ++ num (f0 - d - 1).toNat).length + (num ((q : Int) - 1).toNat).length ≤ 140737488355328 by rw [List.length_append, show ((q : Int) - 1).toNat = q - 1 by omega]; omega)
      clear hle
      have SX := Aside0.mk (sep_new HS.out #[.int .i64 f0, .slice A1 q c1] 42)
      obtain ⟨gp, hgp⟩ : ∃ gp, gp = wr.heap.size := ⟨_, rfl⟩
      have hb1 := (sep_blk SX.out 2 rfl).1
      clear hb1
      go_wp2_with (first | (go_at_call 22; go_must (refine (PutZ SX.out 0 1 (by decide) rfl rfl _ ?hz ?hl).mono ?_; (case hz => first | (constructor <;> omega) | (trace_state; omega)); (case hl => first | exact HL1.out | exact HL2.out); rintro e w3 ⟨rfl, v3, p3⟩; have SY := Aside0.mk p3; clear p3; clear SX; have SX := Aside0.mk (show Sep w [rowT KB 5 w.heap.size v3 _, blkT _ #[v3] 22, blkT _ #[.int .i64 f0, .slice A1 q c1] 42] w3 from SY.out); clear SY; have hb3 := (sep_blk SX.out 2 rfl).1; have z0 := blk_cell hb3 0; have z1 := blk_cell hb3 1)))
      rw [← hgp] at SX ⊢
      have hkn : k + 1 ≤ n := hlt
      clear hgp hb3 z0 z1 hlt hd y0 y1 HL1 HL2 HS
      have SX' := Aside0.mk (show Sep w [rowT KB 5 w.heap.size v3 (pre ++ num (f0 - d - 1).toNat ++ num (q - 1)), blkT g #[v3] 22, blkT gp #[.int .i64 f0, .slice A1 q c1] 42] w3 by have h := SX.out; rw [show ((q : Int) - 1).toNat = q - 1 by omega] at h; exact h)
      clear SX
      go_loopw [9, 44] (fun av jv wr2 => ∃ (j : Nat) (a : Int) (pre2 : List Int) (v2 : Value), j ≤ q ∧ jv = .int .i64 j ∧ av = .int .i64 a ∧ (-1 ≤ a ∧ a ≤ 2147483647) ∧ Aside0 (ats a (f1.drop j) = true) ∧ Aside0 (encL l = pre2 ++ encA a (f1.drop j) ++ encF f0 (l.drop (k + 1))) ∧ Aside0 (Sep w [rowT KB 5 w.heap.size v2 pre2, blkT g #[v2] 22, blkT gp #[.int .i64 f0, .slice A1 q c1] 42] wr2)) (fun _ i _ => q - (intOf i).toNat)
      case atStart => exact ⟨0, -1, _, _, Nat.zero_le _, rfl, rfl, by omega, M4, ⟨by rw [HE1.out, List.drop_zero]; simp only [List.append_assoc]⟩, SX'⟩
      case round =>
        clear SX' M4 HE1
        obtain ⟨j, a, pre2, v2, hj, rfl, rfl, ha0, HMF, HE, HS⟩ := hrel
        by_cases hlt : j < q
        · have hd : decide ((j : Int) < (q : Int)) = true := by simp; omega
          obtain ⟨ad2, rfl, x0⟩ := intC HC1.out j hlt
          have hmf := HMF.out
          have he := HE.out
          have hjl : j < f1.length := by rw [← HQ.out]; exact hlt
          rw [drop_rd hjl, ats] at hmf
          rw [drop_rd hjl, encA] at he
          obtain ⟨x, hx⟩ : ∃ x, x = rd f1 j := ⟨_, rfl⟩
          rw [← hx] at x0 hmf he
          clear hx hjl
          simp only [Bool.and_eq_true, decide_eq_true_eq] at hmf
          obtain ⟨⟨m1', m2'⟩, m4'⟩ := hmf
          have hb := HS.out.below
          have y0 := (hb.cell (World.block_lt_of_cell? w _ x0)).trans x0
          clear x0 hb
          have M4 := Aside0.mk m4'
          have HE1 := Aside0.mk he
          clear m4' he HMF HE
          have hle := HLEN.out
          rw [HE1.out] at hle
          simp only [List.length_append] at hle
          have HL1 := Aside0.mk (show pre2.length + (num (x - a - 1).toNat).length ≤ 140737488355328 by omega)
          clear hle
          have SX := HS
          go_wp2_with (first | (go_at_call 22; go_must (refine (PutZ SX.out 0 1 (by decide) rfl rfl _ ?hz ?hl).mono ?_; (case hz => first | (constructor <;> omega) | (trace_state; omega)); (case hl => first | exact HL1.out); rintro e w3 ⟨rfl, v3, p3⟩; have SY := Aside0.mk p3; clear p3; clear SX; have SX := Aside0.mk (show Sep w [rowT KB 5 w.heap.size v3 _, blkT _ #[v3] 22, blkT _ #[.int .i64 f0, .slice (some ad2) q c1] 42] w3 from SY.out); clear SY)))
          go_roundw
          case rel => exact ⟨j + 1, x, pre2 ++ num (x - a - 1).toNat, _, by omega, by go_num, rfl, by omega, M4, ⟨by rw [HE1.out]; simp only [List.append_assoc]⟩, SX⟩
          case measure => simp [intOf]; omega
        · have hd : decide ((j : Int) < (q : Int)) = false := by simp; omega
          obtain rfl : j = q := by omega
          have he := HE.out
          rw [HQ.out, List.drop_of_length_le (Nat.le_refl _), encA, List.append_nil] at he
          have HE1 := Aside0.mk he
          clear he
          go_wp2
          go_roundw
          case rel => exact ⟨k + 1, f0, pre2, v2, by omega, by go_num, rfl, by omega, M5, HE1, ⟨Sep.init (L := [rowT KB 5 w.heap.size v2 pre2, blkT g #[v2] 22]) HS.out⟩⟩
          case measure => simp [intOf]; omega
    · have hd : decide ((k : Int) < (n : Int)) = false := by simp; omega
      obtain rfl : k = n := by omega
      have he := HE.out
      rw [HN.out, List.drop_of_length_le (Nat.le_refl _), encF, List.append_nil] at he
      have HE1 := Aside0.mk he
      clear he
      obtain ⟨A9, c9, rfl, -, -⟩ := HS.out.reads 0 rfl
      have hb3 := (sep_blk HS.out 1 rfl).1
      have z0 := blk_cell hb3 0
      clear hb3
      go_wp2
      go_ret2
      exact ⟨_, rfl, by rw [HE1.out]; exact Sep.init (L := [rowT KB 5 w.heap.size (.slice A9 pre.length c9) pre]) HS.out⟩
end Go.Proofs.Ytpebemljgeammab.Pe
