/-
  A row with room behind it: made, appended onto in its own room.
-/
import Derived.Test.YtpebemljgeammabProg
import Derived.Test.YtpebemljgeammabFm
import Derived.Laws.MakeOwn
import Derived.ArgAppend
namespace Go.Proofs.Ytpebemljgeammab.Rm
set_option linter.unusedVariables false
set_option linter.unusedSimpArgs false
open Go.RowKit Go.Proofs.YtpebemljgeammabW.PrintWords Go.Proofs.Ytpebemljgeammab.Hp Go.Proofs.Ytpebemljgeammab.Fm

theorem info_8 : (Try.prog.info? 5).map (fun i => (i.zero, i.size, i.bytes)) = some (some (.int .u8 0), 1, 1) := by kernel_rfl
theorem made (k : Nat) : madeCells (Value.int .u8 0).cells k = (nums .u8 (List.replicate k 0)).toArray := by
  apply Array.ext
  · simp [madeCells, nums]
  · intro i h1 h2
    simp [madeCells, nums, Value.cells, Nat.mod_one]
theorem setCells_chg (g : Nat) : ∀ (vs : List Value) (o : Nat) (W : World), Chg (fun b => b = g) W (W.setCells g o vs)
  | [], _, W => Chg.refl _ W
  | v :: vs, o, W => ((Chg.refl (fun b => b = g) W).setCell (p := ⟨g, o, none⟩) (.inl rfl) v).trans (setCells_chg g vs (o + 1) _) (fun _ _ h => h)
theorem blk_setCells {g t : Nat} : ∀ (news olds pre post : List Value) (W : World), W.heap[g]? = some (.cells (pre ++ olds ++ post).toArray t (0, 0)) → olds.length = news.length → (W.setCells g pre.length news).heap[g]? = some (.cells (pre ++ news ++ post).toArray t (0, 0))
  | [], olds, pre, post, W, h, hl => by
    obtain rfl : olds = [] := List.eq_nil_of_length_eq_zero hl
    exact h
  | v :: news, [], pre, post, W, h, hl => by simp at hl
  | v :: news, u :: olds, pre, post, W, h, hl => by
    have h1 := blk_set h pre.length v
    have e : (pre ++ u :: olds ++ post).toArray.setIfInBounds pre.length v = ((pre ++ [v]) ++ olds ++ post).toArray := by
      rw [List.setIfInBounds_toArray]
      congr 1
      simp [List.set_append]
    rw [e] at h1
    have h2 := blk_setCells news olds (pre ++ [v]) post _ h1 (by simpa using hl)
    rw [List.length_append] at h2
    show ((W.setCell ⟨g, pre.length, none⟩ v).setCells g (pre.length + 1) news).heap[g]? = _
    simpa using h2
/-- A block as a thing. -/
def blkT (g : Nat) (cells : Array Value) (t : TypeId) : Th :=
  ⟨fun ok w => ok g ∧ w.heap[g]? = some (.cells cells t (0, 0)), fun h hm => ⟨h.1, (hm g h.1 (blk_lt h.2)).trans h.2⟩, fun h => ⟨⟨h.1, blk_lt h.2⟩, h.2⟩⟩
theorem sep_blk {w0 w : World} {L : List Th} (h : Sep w0 L w) (i : Nat) {g : Nat} {cells : Array Value} {t : TypeId} (hi : L[i]? = some (blkT g cells t)) : w.heap[g]? = some (.cells cells t (0, 0)) ∧ w0.heap.size ≤ g := by
  obtain ⟨ok, h1, h2, _⟩ := h.op i _ hi
  exact ⟨h1.2, h2 g h1.1⟩
theorem sep_chg {w0 w w' : World} {L : List Th} (h : Sep w0 L w) (i : Nat) {g : Nat} {cells cells' : Array Value} {t : TypeId} (hi : L[i]? = some (blkT g cells t)) (hc : w'.heap[g]? = some (.cells cells' t (0, 0))) (hch : Chg (fun b => b = g) w w') :
    Sep w0 (L.set i (blkT g cells' t)) w' := by
  obtain ⟨ok, h1, h2, h3⟩ := h.op i _ hi
  exact h3 w' (blkT g cells' t) ok ⟨h1.1, hc⟩ (fun b hb => .inl hb) (hch.mono (fun k _ hk => by rw [hk]; exact h1.1))
theorem sep_set {w0 w : World} {L : List Th} (h : Sep w0 L w) (i : Nat) {g : Nat} {cells : Array Value} {t : TypeId} (hi : L[i]? = some (blkT g cells t)) (j : Nat) (u : Value) (cells' : Array Value) (hc : (w.setCell ⟨g, j, none⟩ u).heap[g]? = some (.cells cells' t (0, 0))) :
    Sep w0 (L.set i (blkT g cells' t)) (w.setCell ⟨g, j, none⟩ u) :=
  sep_chg h i hi hc ((Chg.refl (fun b => b = g) w).setCell (p := ⟨g, j, none⟩) (.inl rfl) u)
theorem room_reads {W : World} {g : Nat} {zs : List Int} (hb : W.heap[g]? = some (.cells (nums .u8 zs).toArray 5 (0, 0))) (hm : zs.length ≤ 9223372036854775807) (m : Nat) (h : m ≤ zs.length) : ReadsInt W .u8 (some ⟨g, 0, none⟩) m (zs.take m) :=
  (lit_reads (k := .u8) (xs := zs) hb rfl hm).take_ m h
theorem nums_set (zs : List Int) (j : Nat) (x : Int) : ((nums .u8 zs).toArray.setIfInBounds j (.int .u8 x)) = (nums .u8 (zs.set j x)).toArray := by
  rw [List.setIfInBounds_toArray]
  congr 1
  simp [nums, List.map_set]
theorem append_room (W : World) (ty : TypeId) (g c : Nat) (zs : List Int) (hb : W.heap[g]? = some (.cells (nums .u8 zs).toArray 5 (0, 0))) (hz : zs.length = c) (A : Option Addr) (m cA : Nat) (bs : List Int) (hB : ReadsInt W .u8 A m bs) (hm : m ≤ c) :
    ∃ W', (Builtin.append_ #[22, 22] ty #[.slice (some ⟨g, 0, none⟩) 0 c, .slice A m cA]).run Try.prog W = .ok (.slice (some ⟨g, 0, none⟩) m c) W' ∧ W'.heap[g]? = some (.cells (nums .u8 (bs ++ zs.drop m)).toArray 5 (0, 0)) ∧ Chg (fun b => b = g) W W' := by
  obtain ⟨i8, hi8, hz8⟩ := Option.map_eq_some_iff.1 info_8
  simp only [Prod.mk.injEq] at hz8
  have hl := hB.1
  rcases Nat.eq_zero_or_pos m with rfl | hm0
  · have hbs : bs = [] := List.eq_nil_of_length_eq_zero hl
    subst hbs
    refine ⟨W, ?_, by simpa using hb, Chg.refl _ W⟩
    cases A with
    | none => simp [Builtin.append_, run_underlying Try.underlying22, sizeOf, typeInfo, hi8, Builtin.lenOf, Builtin.firstCells, storeCells, loadCells]
    | some a =>
      have := run_append_room_cells (P := Try.prog) W 22 ty 5 i8 Try.underlying22 hi8 g 0 0 c a 0 cA [] (by simp) (by simp) (by simp) (Nat.zero_le _) (by simp) (by simp)
      simpa [World.setCells] using this
  · obtain ⟨a, rfl, hcell⟩ := hB.2.2 hm0
    have hcells : ∀ j, j < (nums .u8 bs).length → (W.cell? ⟨g, 0 + 0 * i8.size + j, none⟩).isSome = true := by
      intro j hj
      have hj2 : j < bs.length := by simpa [nums] using hj
      rw [blk_cell hb]
      simp [nums]
      omega
    have hfr : ∀ j, j < (nums .u8 bs).length → W.frozen? ⟨g, 0 + 0 * i8.size + j, none⟩ = false := fun j _ => blk_frozen hb _
    have h1 := run_append_room_cells (P := Try.prog) W 22 ty 5 i8 Try.underlying22 hi8 g 0 0 c a m cA (nums .u8 bs) (by rw [hz8.2.1]; simp [nums, hl]) (fun j u hu => by
      have hj : j < bs.length := by
        have := (List.getElem?_eq_some_iff.1 hu).1
        simpa [nums] using this
      rw [hcell j (by omega)]
      simp [nums, List.getElem?_eq_getElem hj] at hu
      rw [← hu]
      simp [List.getElem?_eq_getElem hj]) (by intro u hu; simp [nums] at hu; obtain ⟨x, _, rfl⟩ := hu; rfl) (by omega) hcells hfr
    rw [show 0 + m = m by omega] at h1
    refine ⟨_, h1, ?_, setCells_chg g _ _ _⟩
    have h2 := blk_setCells (g := g) (t := 5) (nums .u8 bs) (nums .u8 (zs.take m)) [] (nums .u8 (zs.drop m)) W (by rw [List.nil_append, ← nums_append, List.take_append_drop]; exact hb) (by simp [nums, hl]; omega)
    rw [List.nil_append, ← nums_append] at h2
    simpa using h2
end Go.Proofs.Ytpebemljgeammab.Rm
