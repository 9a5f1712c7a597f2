/-
  The reference's Copy; writes into what Decode made.
-/
import Derived.Test.YtpebemljgeammabPr
import Derived.Test.YtpebemljgeammabPq
import Derived.Test.YtpebemljgeammabRm
import Derived.Test.YtpebemljgeammabPPostingKeepsx4
namespace Go.Proofs.Ytpebemljgeammab.Pv
set_option linter.unusedVariables false
set_option linter.unusedSimpArgs false
open Go.RowKit Go.Proofs.YtpebemljgeammabW.PrintWords Go.Proofs.YtpebemljgeammabW.PrintMore Go.Proofs.Ytpebemljgeammab.Hp Go.Proofs.Ytpebemljgeammab.Fm Go.Proofs.Ytpebemljgeammab.Pn Go.Proofs.Ytpebemljgeammab.Pm Go.Proofs.Ytpebemljgeammab.Pw Go.Proofs.Ytpebemljgeammab.Pe Go.Proofs.Ytpebemljgeammab.Pd Go.Proofs.Ytpebemljgeammab.Pf Go.Proofs.Ytpebemljgeammab.Pq Go.Proofs.Ytpebemljgeammab.PPostingKeeps

theorem copy_l1 (l : List S42) (hs : sz l ≤ 4194304) (i : Nat) (hi : i < l.length) (B : Nat) (hR : ∀ k, B ≤ k → tremaref14_Copy.l0 k l (l.take (i + 1)) ((i + 1 : Nat) : Int) = some l) (hf : (rd_T42 l i).f1.length ≤ 4194304) : ∀ (m j k : Nat), (rd_T42 l i).f1.length - j = m → j ≤ (rd_T42 l i).f1.length → m + 1 + B ≤ k →
    tremaref14_Copy.l1 k l (l.take i) i ((rd_T42 l i).f1.take j) j = some l := by
  have h4 := len_sz l
  intro m
  induction m with
  | zero =>
    intro j k hm hj hk
    obtain ⟨k, rfl⟩ : ∃ k', k = k' + 1 := ⟨k - 1, by omega⟩
    rw [tremaref14_Copy.l1, if_pos (by omega), if_pos (by omega), if_neg (by omega), if_pos (by rw [List.length_take]; omega), List.take_of_length_le (l := (rd_T42 l i).f1) (by omega), show wrap64 ((i : Int) + 1) = ((i + 1 : Nat) : Int) by unfold wrap64; omega]
    have e : l.take i ++ [(⟨(rd_T42 l i).f0, (rd_T42 l i).f1⟩ : S42)] = l.take (i + 1) := by
      have e1 : (⟨(rd_T42 l i).f0, (rd_T42 l i).f1⟩ : S42) = l[i] := by unfold rd_T42; simp [List.getElem?_eq_getElem hi]
      rw [e1, ← List.take_succ_eq_append_getElem hi]
    rw [e]
    exact hR k (by omega)
  | succ m ih =>
    intro j k hm hj hk
    obtain ⟨k, rfl⟩ : ∃ k', k = k' + 1 := ⟨k - 1, by omega⟩
    have hlt : j < (rd_T42 l i).f1.length := by omega
    rw [tremaref14_Copy.l1, if_pos (by omega), if_pos (by omega), if_pos (by omega), if_pos (by omega), if_pos (by rw [List.length_take]; omega), show wrap64 ((j : Int) + 1) = ((j + 1 : Nat) : Int) by unfold wrap64; omega]
    have e : (rd_T42 l i).f1.take j ++ [rd (rd_T42 l i).f1 j] = (rd_T42 l i).f1.take (j + 1) := by
      rw [List.take_succ_eq_append_getElem hlt]
      unfold rd
      simp [List.getElem?_eq_getElem hlt]
    rw [e]
    exact ih (j + 1) k (by omega) (by omega) (by omega)
theorem sz_drop (l : List S42) (i : Nat) : sz (l.drop i) ≤ sz l := by
  induction l generalizing i with
  | nil => simp
  | cons p l ih =>
    cases i with
    | zero => simp
    | succ i => rw [List.drop_succ_cons, sz_cons]; have := ih i; omega
theorem copy_l0 (l : List S42) (hs : sz l ≤ 4194304) : ∀ (m i k : Nat), l.length - i = m → i ≤ l.length → sz (l.drop i) + 1 ≤ k → tremaref14_Copy.l0 k l (l.take i) i = some l := by
  have h4 := len_sz l
  intro m
  induction m with
  | zero =>
    intro i k hm hi hk
    obtain ⟨k, rfl⟩ : ∃ k', k = k' + 1 := ⟨k - 1, by omega⟩
    rw [tremaref14_Copy.l0, if_neg (by omega), List.take_of_length_le (by omega)]
  | succ m ih =>
    intro i k hm hi hk
    have hlt : i < l.length := by omega
    have hsd := sz_drop l i
    rw [drop_S hlt, sz_cons] at hk hsd
    obtain ⟨k, rfl⟩ : ∃ k', k = k' + 1 := ⟨k - 1, by omega⟩
    rw [tremaref14_Copy.l0, if_pos (by omega)]
    have := copy_l1 l hs i hlt (sz (l.drop (i + 1)) + 1) (fun k' hk' => ih (i + 1) k' (by omega) (by omega) hk') (by omega) (rd_T42 l i).f1.length 0 k (by omega) (by omega) (by omega)
    rw [List.take_zero] at this
    exact this
theorem CopyP (w : World) (A : Option Addr) (n c : Nat) (l : List S42) (hC : k42.C w A n l) (hn : n = l.length) (hc : n ≤ c) (hs : sz l ≤ 4194304) :
    Calls Try.prog 18 #[.slice A n c] w fun e w' => ∃ v, e = .returned v ∧ Sep w [rowT k42 TP w.heap.size v l] w' := by
  subst hn
  have hf : tremaref14_Copy.f (sz l + 1) l = some l := by
    have := copy_l0 l hs l.length 0 (sz l + 1) (by omega) (by omega) (by simp)
    rw [List.take_zero] at this
    exact this
  refine (tremaref14_Copy.calls _ A c l l w hC hc hf).mono ?_
  rintro e w' ⟨v, rfl, h2, h3⟩
  exact ⟨v, rfl, (Sep.nil w).new (rowT k42 TP w.heap.size v l) (ok := fun k => w.heap.size ≤ k) (Kd.R_mono (Kd.R_bound (Kd.S_R h2)) (fun k hk => hk.2.1)) (fun _ h => h) h3⟩

/-- Encode, whatever it answers. -/
theorem EncAny (w : World) (A : Option Addr) (n c : Nat) (l : List S42) (hC : k42.C w A n l) (hn : n = l.length) (hc : n ≤ c) (hs : sz l ≤ 4194304) :
    Calls Try.prog 12 #[.slice A n c] w fun e w' => ∃ A1 n1 c1 ec, e = .returned (.tuple #[.slice A1 n1 c1, .int .i64 ec]) ∧ Below w.heap.size w w' := by
  cases hm : may l with
  | false =>
    refine (EncNo w A n c l hC hn hc hm).mono ?_
    rintro e w' ⟨rfl, h⟩
    exact ⟨none, 0, 0, 1, rfl, h⟩
  | true =>
    refine (EncOk w A n c l hC hn hc hm (enc_small l hs hm)).mono ?_
    rintro e w' ⟨v, rfl, h⟩
    obtain ⟨A1, c1, rfl, -, -⟩ := h.reads 0 rfl
    exact ⟨A1, _, c1, 0, rfl, h.below⟩

/-- A store into a row of numbers. -/
theorem row_set {w0 w : World} {L : List Th} {k : IntKind} {e base n cap g : Nat} {xs : List Int} (h : Sep w0 L w) (i : Nat) (hi : L[i]? = some (rowT (Kd.int k) e base (.slice (some ⟨g, 0, none⟩) n cap) xs)) (hn : n = xs.length) (j : Nat) (hj : j < n) (x : Int) :
    (∃ u, w.cell? ⟨g, j, none⟩ = some u) ∧ w.frozen? ⟨g, j, none⟩ = false ∧ Sep w0 (L.set i (rowT (Kd.int k) e base (.slice (some ⟨g, 0, none⟩) n cap) (xs.set j x))) (w.setCell ⟨g, j, none⟩ (.int k x)) := by
  obtain ⟨ok, h1, h2, h3⟩ := h.op i _ hi
  have h1' : (Kd.int k).R e w base ok (.slice (some ⟨g, 0, none⟩) n cap) xs := h1
  obtain ⟨c, hcl, hM, hcell, hfr⟩ := Kd.R_elem h1' (0 : Int) (j : Int) (by omega) (by omega)
  have hok : ok g := h1'.1 g rfl
  refine ⟨?_, ?_, ?_⟩
  · match c, hcl with
    | [u], _ =>
      have := hcell 0 u rfl
      simp [Kd.int, Kd.scalar] at this
      exact ⟨u, this⟩
  · have := hfr 0
    simpa [Kd.int, Kd.scalar] using this
  · obtain ⟨inner, hown, hrep⟩ := h1'.2
    have hin : inner = nums k xs := by
      have h5 : Reps (fun (x : Int) (cs : List Value) => cs = [Value.int k x]) 1 xs inner := hrep
      exact Kd.reps_encs h5
    rw [hin, ← hn] at hown
    have hst := (own_store hown (j : Int) x).1
    rw [Int.toNat_natCast] at hst
    refine h3 _ (rowT (Kd.int k) e base (.slice (some ⟨g, 0, none⟩) n cap) (xs.set j x)) ok ?_ (fun b hb => .inl hb) ((Chg.refl ok w).setCell (p := ⟨g, j, none⟩) (.inl hok) _)
    exact ⟨h1'.1, _, by rw [List.length_set, ← hn]; exact hst, reps_nums _⟩
/-- What is written since w9 into what was made since w8: the lists' rows stay, the numbers' rows keep their sizes. -/
def Wr (w8 w9 W : World) : Prop :=
  Below w8.heap.size w8 W ∧ (∀ (b : Nat) (cs : Array Value), w9.heap[b]? = some (.cells cs TP (0, 0)) → W.heap[b]? = some (.cells cs TP (0, 0))) ∧ (∀ (b : Nat) (cs : Array Value), w9.heap[b]? = some (.cells cs 3 (0, 0)) → ∃ cs' : Array Value, W.heap[b]? = some (.cells cs' 3 (0, 0)) ∧ cs'.size = cs.size)
theorem Wr.start {w8 w9 : World} (h : Below w8.heap.size w8 w9) : Wr w8 w9 w9 := ⟨h, fun _ _ h => h, fun _ cs h => ⟨cs, h, rfl⟩⟩
theorem Wr.set {w8 w9 W : World} (h : Wr w8 w9 W) {g j : Nat} {cs : Array Value} (h9 : w9.heap[g]? = some (.cells cs 3 (0, 0))) (hg : w8.heap.size ≤ g) (hj : j < cs.size) (u : Value) :
    (∃ u0, W.cell? ⟨g, j, none⟩ = some u0) ∧ W.frozen? ⟨g, j, none⟩ = false ∧ Wr w8 w9 (W.setCell ⟨g, j, none⟩ u) := by
  obtain ⟨h1, h2, h3⟩ := h
  obtain ⟨cs', hb, hs⟩ := h3 g cs h9
  refine ⟨⟨cs'[j]'(by omega), (blk_cell hb j).trans (Array.getElem?_eq_getElem (by omega))⟩, blk_frozen hb j, below_set h1 hg, fun b cs0 h0 => ?_, fun b cs0 h0 => ?_⟩
  · have hne : b ≠ g := by
      rintro rfl
      rw [h9] at h0
      injection h0 with h0
      injection h0 with _ h0
      exact absurd h0 (by decide)
    exact (Below.heap_setCell W ⟨g, j, none⟩ u b hne).trans (h2 b cs0 h0)
  · by_cases he : b = g
    · subst he
      rw [h9] at h0
      injection h0 with h0
      injection h0 with h0
      subst h0
      exact ⟨_, blk_set hb j u, by rw [Array.size_setIfInBounds]; exact hs⟩
    · obtain ⟨cs1, h5, h6⟩ := h3 b cs0 h0
      exact ⟨cs1, (Below.heap_setCell W ⟨g, j, none⟩ u b he).trans h5, h6⟩
theorem own_form {w : World} {base n : Nat} {e : TypeId} {v : Value} {xs : List Value} {size : Nat} (h : w.ownsRow base e size v n xs) (hn : 0 < n) : ∃ g cap cs, v = .slice (some ⟨g, 0, none⟩) n cap ∧ base ≤ g ∧ w.heap[g]? = some (.cells cs e (0, 0)) ∧ n ≤ cap ∧ cs.size = cap * size := by
  obtain ⟨h1, h2⟩ := h
  rcases h2 with ⟨rfl, h0⟩ | ⟨g, cap, cur, rfl, hb, hh, hnc, hcm, hcs, ht⟩
  · omega
  · exact ⟨g, cap, cur, rfl, hb, hh, hnc, hcs⟩
theorem m_elem {w8 w9 : World} {v : Value} {r : List S42} (h : Sep w8 [rowT k42 TP w8.heap.size v r] w9) (i : Nat) (hi : i < r.length) :
    ∃ gm cm cs A1 q c1, v = .slice (some ⟨gm, 0, none⟩) r.length cm ∧ w9.heap[gm]? = some (.cells cs TP (0, 0)) ∧ cs[i * 2 + 1]? = some (.slice A1 q c1) ∧ q ≤ 9223372036854775807 ∧ (0 < q → ∃ ga cs3, A1 = some ⟨ga, 0, none⟩ ∧ w9.heap[ga]? = some (.cells cs3 3 (0, 0)) ∧ q ≤ cs3.size ∧ w8.heap.size ≤ ga) := by
  obtain ⟨ok, h1⟩ := h.one 0 _ rfl
  have h1' : k42.R TP w9 w8.heap.size ok v r := h1
  obtain ⟨inner, hown, _⟩ := h1'.2
  obtain ⟨gm, cm, cs, rfl, hb, hh, _, _⟩ := own_form hown (by omega)
  obtain ⟨c, hcl, hM, hcell, _⟩ := Kd.R_elem h1' z42 (i : Int) (by omega) (by omega)
  obtain ⟨v1, rfl, hR1⟩ := k42_openM hM
  rw [Int.toNat_natCast] at hcell hR1
  obtain ⟨fs, hfs⟩ : ∃ fs, fs = (r.getD i z42).f1 := ⟨_, rfl⟩
  rw [← hfs] at hR1
  obtain ⟨A1, c1, rfl⟩ := Kd.R_slice hR1
  refine ⟨gm, cm, cs, A1, fs.length, c1, rfl, hh, ?_, (Kd.R_reads' hR1).2.2.2.1, fun hq => ?_⟩
  · have := hcell 1 _ rfl
    rw [blk_cell hh] at this
    exact this
  · obtain ⟨inner1, hown1, _⟩ := hR1.2
    obtain ⟨ga, cap, cs3, e, hb1, hh1, hnc, hcs⟩ := own_form hown1 hq
    injection e with e1 e2 e3
    exact ⟨ga, cs3, e1, hh1, by have : (Kd.int IntKind.i64).sz = 1 := rfl; rw [this] at hcs; omega, hb1⟩
end Go.Proofs.Ytpebemljgeammab.Pv
