/-
  Several texts of this claim in one: what its law's proof uses.
-/
import Derived.Test.YtdambnclbpipdaaGreatDoorMMR0
import Derived.Test.YtdambnclbpipdaaGreatDoorRows
import Derived.Deep.Slices
import Derived.ChangeArms
import Derived.ChangeMaps
import Derived.SizedLaws
import Derived.OpenShut
import Derived.ProofKit
import Derived.Maps.RangeWalk
import Derived.Maps.OwnSet
import Derived.Test.YtdambnclbpipdaaGreatDoorProg
import Derived.DeepKeys4
import Derived.Sort.KeysCollected
import Derived.Below
import Derived.Deep.Draws
import Derived.Deep.AppendLies
import Derived.Maps.AppendAt
import Derived.OwnWalk
import Derived.Laws.BytesArg
import Derived.Laws.MakeOwn
import Derived.Laws.OwnMore
import Derived.Deep.OwnRows
import Derived.Tactics
import Derived.Lib.ConvBytes
import Derived.Laws.Slices
import Derived.WalkKit
import Derived.KernelRfl
import Derived.RowKit3
import Derived.Deep.LoopGhost
import Derived.Deep.QuietTactic
import Derived.BigQuiet
import Derived.WideLaws
import Derived.Deep.DeepCutAuto
import Derived.Deep.CutBlock
import Derived.Deep.RegionHeld3
import Derived.Laws.Rows
import Derived.Lib.AppendStr
import Derived.ArgAppend
import Derived.Laws.IdiomCopy
import Derived.OrdersHeld
import Derived.Laws.BitsLemmas
import Derived.RowKit
import Derived.Laws.StructEq
import Derived.Deep.MidRow
import Derived.WalkSpells
import Derived.WalkLawsBesides
import Derived.BigRegion
import Derived.RegionTactic
namespace Go.Proofs.YtdambnclbpipdaaGreatDoor.Hp
set_option linter.unusedVariables false
set_option linter.unusedSimpArgs false
open Go.RowKit Go.Proofs.YtdambnclbpipdaaGreatDoorW.PrintWords
structure Chg (S : Nat → Prop) (w w' : World) : Prop where
  os : w'.os = w.os
  tape : w'.tape = w.tape
  output : w'.output = w.output
  size : w.heap.size ≤ w'.heap.size
  keep : ∀ k, k < w.heap.size → ¬ S k → w'.heap[k]? = w.heap[k]?
namespace Chg
variable {S S' : Nat → Prop} {w w' w1 w2 : World}
theorem refl (S : Nat → Prop) (w : World) : Chg S w w := ⟨rfl, rfl, rfl, Nat.le_refl _, fun _ _ _ => rfl⟩
theorem mono (h : Chg S w w') (hs : ∀ k, k < w.heap.size → S k → S' k) : Chg S' w w' :=
  ⟨h.os, h.tape, h.output, h.size, fun k hk hn => h.keep k hk (fun h2 => hn (hs k hk h2))⟩
theorem trans (h : Chg S w w1) (k : Chg S' w1 w2) (hs : ∀ i, i < w.heap.size → S' i → S i) : Chg S w w2 :=
  ⟨k.os.trans h.os, k.tape.trans h.tape, k.output.trans h.output, Nat.le_trans h.size k.size,
    fun i hi hn => (k.keep i (Nat.lt_of_lt_of_le hi h.size) (fun h2 => hn (hs i hi h2))).trans (h.keep i hi hn)⟩
theorem of_below {B : Nat} (h : Below B w w') (hB : ∀ k, k < w.heap.size → B ≤ k → S k) : Chg S w w' :=
  ⟨h.os, h.tape, h.output, h.size, fun i hi hn => h.block i (by rcases Nat.lt_or_ge i B with h1 | h1; exact h1; exact absurd (hB i hi h1) hn)⟩
theorem below (h : Chg S w w') {B : Nat} (hB : ∀ k, k < B → k < w.heap.size ∧ ¬ S k) : Below B w w' :=
  ⟨h.os, h.tape, h.output, h.size, fun k hk => h.keep k (hB k hk).1 (hB k hk).2⟩
theorem then_below (h : Chg S w w1) (k : Below w1.heap.size w1 w2) : Chg S w w2 :=
  h.trans (of_below k (S := fun _ => False) (fun i h1 h2 => by omega)) (fun _ _ h => h.elim)
theorem then_drawn (h : Chg S w w1) (k : Drawn0 w1 w2) : Chg S w w2 := h.then_below k.below
theorem drew (h : Chg S w w1) : Chg S w w1.drew := h.then_drawn ((Drawn0.refl w1).step 1)
theorem drewN (h : Chg S w w1) (n : Nat) : Chg S w (w1.drewN n) := h.then_drawn ((Drawn0.refl w1).step n)
theorem alloc (h : Chg S w w1) (o : Obj) : Chg S w (w1.alloc o) := h.then_below (below_alloc (Below.refl _ _) o)
theorem grown {row : Option Nat} (h : Chg S w w1) (hg : w1.grownBy w2 row) (hr : ∀ k, row = some k → S k ∨ w.heap.size ≤ k) : Chg S w w2 :=
  h.trans (S' := fun k => row = some k) ⟨hg.os, hg.tape, hg.output, hg.size, fun k hk hn => hg.block k hk (fun he => hn he.symm)⟩
    (fun i hi h2 => (hr i h2).elim id (fun h3 => by omega))
theorem setCell (h : Chg S w w1) {p : Addr} (hp : S p.block ∨ w.heap.size ≤ p.block) (u : Value) : Chg S w (w1.setCell p u) :=
  h.trans (S' := fun k => k = p.block) ⟨rfl, rfl, rfl, by simp [World.setCell], fun k _ hn => Below.heap_setCell _ _ _ _ hn⟩
    (fun i hi h2 => hp.elim (fun h3 => h2 ▸ h3) (fun h3 => by omega))
theorem kept (h : Chg S w w') : w.heap.size ≤ w'.heap.size ∧ ∀ i, i < w.heap.size → ¬ S i → w'.heap[i]? = w.heap[i]? := ⟨h.size, h.keep⟩
theorem below_of {w0 : World} (hb : Below w0.heap.size w0 w) (h : Chg S w w') (hS : ∀ k, S k → w0.heap.size ≤ k) : Below w0.heap.size w0 w' :=
  hb.trans (h.below (fun k hk => ⟨Nat.lt_of_lt_of_le hk hb.size, fun h2 => by have := hS k h2; omega⟩))
theorem heap (h : Chg S w w') {g : Nat} {o : Obj} (hb : w.heap[g]? = some o) (hne : ¬ S g) : w'.heap[g]? = some o := (h.keep g (blk_lt hb) hne).trans hb
theorem lt (h : Chg S w w') {k : Nat} (hk : k < w.heap.size) : k < w'.heap.size := Nat.lt_of_lt_of_le hk h.size
end Chg
def Ft (P : World → Prop) (W : World) (ok : Nat → Prop) : Prop := ∀ W' : World, (∀ k, ok k → k < W.heap.size → W'.heap[k]? = W.heap[k]?) → P W'
namespace Ft
variable {P Q : World → Prop} {W W1 : World} {ok ok' S : Nat → Prop}
theorem hlt {k : Nat} (h : W1.heap[k]? = W.heap[k]?) (hlt : k < W.heap.size) : k < W1.heap.size := by
  rw [Array.getElem?_eq_getElem hlt] at h
  exact (Array.getElem?_eq_some_iff.1 h).1
theorem now (h : Ft P W ok) : P W := h W (fun _ _ _ => rfl)
theorem mono (h : Ft P W ok) (hok : ∀ k, k < W.heap.size → ok k → ok' k) : Ft P W ok' := fun W' hW => h W' (fun k hk hlt => hW k (hok k hlt hk) hlt)
theorem bound (h : Ft P W ok) : Ft P W (fun k => ok k ∧ k < W.heap.size) := h.mono fun _ hlt hk => ⟨hk, hlt⟩
theorem step (h : Ft P W ok) (hm : ∀ k, ok k → k < W.heap.size → W1.heap[k]? = W.heap[k]?) : Ft P W1 (fun k => ok k ∧ k < W.heap.size) := fun W' hW => h W' (fun k hk hlt => (hW k ⟨hk, hlt⟩ (hlt |> Ft.hlt (hm k hk hlt))).trans (hm k hk hlt))
theorem chg (h : Ft P W ok) (hc : Chg S W W1) (hd : ∀ k, ok k → ¬ S k) : Ft P W1 (fun k => ok k ∧ k < W.heap.size) := h.step (fun k hk hlt => hc.keep k hlt (hd k hk))
theorem imp (h : Ft P W ok) (hi : ∀ W', P W' → Q W') : Ft Q W ok := fun W' hW => hi W' (h W' hW)
theorem and (h : Ft P W ok) (k : Ft Q W ok') : Ft (fun w => P w ∧ Q w) W (fun i => ok i ∨ ok' i) := fun W' hW => ⟨h W' (fun i hi => hW i (.inl hi)), k W' (fun i hi => hW i (.inr hi))⟩
end Ft
section
variable {α : Type} {d : Kd α} {e base n c : Nat} {ok S : Nat → Prop} {w w0 W W1 : World} {v : Value} {A : Option Addr} {xs : List α}
theorem R_chg (h : d.R e W base ok v xs) (hc : Chg S W W1) (hne : ∀ k, ok k → ¬ S k) : d.R e W1 base ok v xs := Kd.R_step h (fun k ho hlt => hc.keep k hlt (hne k ho))
theorem cell_chg {a : Addr} {u : Value} (hc : W.cell? a = some u) (hk : Chg S W W1) (hne : ¬ S a.block) : W1.cell? a = some u := by
  have := hk.keep a.block (World.block_lt_of_cell? W a hc) hne
  simpa [World.cell?, this] using hc
end
theorem lit_reads {w : World} {b : Nat} {t : TypeId} {k : IntKind} {xs : List Int} {cs : Array Value} {fr : Nat × Nat} (h : w.heap[b]? = some (.cells cs t fr)) (hc : cs.toList = nums k xs) (hm : xs.length ≤ 9223372036854775807) :
    ReadsInt w k (some ⟨b, 0, none⟩) xs.length xs := by
  refine ⟨rfl, hm, fun _ => ⟨_, rfl, fun j hj => ?_⟩⟩
  rw [add_plain]
  have : cs[j]? = some (.int k (xs.getD j 0)) := by
    rw [← Array.getElem?_toList, hc]
    simp [nums, List.getElem?_eq_getElem hj, List.getD_eq_getElem?_getD]
  simp [World.cell?, h, this]
theorem rdint {w : World} {k : IntKind} {A : Option Addr} {n : Nat} {xs : List Int} (h : (Kd.int k).C w A n xs) : ReadsInt w k A n xs := Kd.reads_of_C (d := (0 : Int)) (h1 := fun _ => rfl) h
theorem rdC {w : World} {k : IntKind} {A : Option Addr} {n : Nat} {xs : List Int} (h : ReadsInt w k A n xs) : (Kd.int k).C w A n xs := Kd.C_of_reads (d := (0 : Int)) (h1 := fun _ => rfl) h
theorem below_size {w W : World} (h : Below w.heap.size w W) : w.heap.size ≤ W.heap.size := h.size
end Go.Proofs.YtdambnclbpipdaaGreatDoor.Hp
namespace Go.Proofs.YtdambnclbpipdaaGreatDoor.Od
set_option linter.unusedVariables false
set_option linter.unusedSimpArgs false
open Go.RowKit Go.Proofs.YtdambnclbpipdaaGreatDoorW.PrintWords Go.Proofs.YtdambnclbpipdaaGreatDoor.Hp Go.ChangeShapes Go.WideShapes
def Opens {α : Type} (P : Program) (t : TypeId) (d : Kd α) (wf : α → Prop) (bulk : α → Nat) : Prop :=
  ∀ (H : Type) (enc : TypeId × Value → H) (w : World) (base : Nat) (spare : Nat → Bool) (held : Bool) (fuel : Nat) (cs : List Value) (x : DataW H × List MemPlace),
    DataW.trod enc P w base spare held fuel t cs = some x → ∃ a, d.K w a cs ∧ wf a ∧ bulk a ≤ Rows.uptoBulk x.1
def sumB {α : Type} (bulk : α → Nat) : List α → Nat
  | [] => 0
  | a :: l => bulk a + sumB bulk l
theorem bulkAll_append {H : Type} (l r : List (DataW H)) : Rows.uptoBulkAll (l ++ r) = Rows.uptoBulkAll l + Rows.uptoBulkAll r := by
  induction l with
  | nil => simp [Rows.uptoBulkAll]
  | cons x l ih => simp only [List.cons_append, Rows.uptoBulkAll, ih]; omega
section
variable {P : Program}
theorem opens_int {t : TypeId} {k : IntKind} (ht : P.underlying t = some (.int k)) : Opens P t (Kd.int k) (fun n => (Lit.int k n).wf = true) (fun _ => 1) := by
  intro H enc w base spare held fuel cs x h
  obtain ⟨n, rfl, rfl, hw⟩ := DataW.trod_int ht h
  exact ⟨n, rfl, hw, by simp [Rows.uptoBulk]⟩
theorem slice_list {α : Type} {d : Kd α} {wf : α → Prop} {bulk : α → Nat} {e : TypeId} {H : Type} {enc : TypeId × Value → H} {w : World} {base : Nat} {spare : Nat → Bool} {held : Bool} (ho : Opens P e d wf bulk) (hC : P.cellsOf e = d.sz) {a : Addr} {m n : Nat} {D : Nat → DataW H} {Pl : Nat → List MemPlace}
    (hx : ∀ i, i < m → ∃ cs', w.cells? base (a.add (i * P.cellsOf e)) (P.cellsOf e) = some cs' ∧ DataW.trod enc P w base spare held n e cs' = some (D i, Pl i)) (len : Nat) (hl : len ≤ m) (hM : len ≤ 9223372036854775807) :
    ∃ xs : List α, xs.length = len ∧ d.C w (some a) len xs ∧ (∀ x, x ∈ xs → wf x) ∧ sumB bulk xs ≤ Rows.uptoBulkAll ((List.range len).map D) := by
  have key : ∀ k, k ≤ len → ∃ xs : List α, xs.length = k ∧ (∀ j p, xs[j]? = some p → ∃ c, c.length = d.sz ∧ d.K w p c ∧ ∀ i u, c[i]? = some u → w.cell? (a.add (j * d.sz + i)) = some u) ∧ (∀ x, x ∈ xs → wf x) ∧ sumB bulk xs ≤ Rows.uptoBulkAll ((List.range k).map D) := by
    intro k
    induction k with
    | zero => exact fun _ => ⟨[], rfl, by simp, by simp, by simp [sumB]⟩
    | succ k ih =>
      intro hk
      obtain ⟨xs, h1, h2, h3, h4⟩ := ih (by omega)
      obtain ⟨cs', hc, ht⟩ := hx k (by omega)
      obtain ⟨p, hK, hw, hb⟩ := ho H enc w base spare held n cs' _ ht
      obtain ⟨_, hcl, hcell⟩ := World.cells?_some hc
      refine ⟨xs ++ [p], by simp [h1], ?_, ?_, ?_⟩
      · intro j q hq
        rw [List.getElem?_append] at hq
        split at hq
        · exact h2 j q hq
        · rename_i hge
          rcases Nat.lt_or_ge (j - xs.length) 1 with h5 | h5
          · have hj : j = k := by omega
            subst hj
            rw [h1, Nat.sub_self] at hq
            simp at hq
            subst hq
            refine ⟨cs', by rw [hcl, hC], hK, fun i u hu => ?_⟩
            have hi : i < P.cellsOf e := by rw [← hcl]; exact (List.getElem?_eq_some_iff.1 hu).1
            have := hcell i hi
            rw [Go.Deep.add_add, hC] at this
            rw [this, hu]
          · rw [List.getElem?_eq_none (by simpa using h5)] at hq; cases hq
      · intro x hx
        rcases List.mem_append.1 hx with hx | hx
        · exact h3 x hx
        · rw [List.mem_singleton.1 hx]; exact hw
      · have e2 : sumB bulk (xs ++ [p]) = sumB bulk xs + bulk p := by
          clear h1 h2 h3 h4
          induction xs with
          | nil => simp [sumB]
          | cons y ys ih2 => simp only [List.cons_append, sumB, ih2]; omega
        rw [e2, List.range_succ, List.map_append, bulkAll_append]
        simp only [List.map_cons, List.map_nil, Rows.uptoBulkAll]
        have hb2 : bulk p ≤ Rows.uptoBulk (D k) := hb
        omega
  obtain ⟨xs, h1, h2, h3, h4⟩ := key len (Nat.le_refl _)
  exact ⟨xs, h1, ⟨h1, hM, fun _ => ⟨a, rfl, h2⟩⟩, h3, h4⟩
theorem opens_slice {α : Type} {d : Kd α} {wf : α → Prop} {bulk : α → Nat} {t e : TypeId} (ht : P.underlying t = some (.slice e)) (hC : P.cellsOf e = d.sz) (ho : Opens P e d wf bulk) :
    Opens P t (Kd.slice e d) (fun xs => ∀ x, x ∈ xs → wf x) (fun xs => sumB bulk xs + 1) := by
  intro H enc w base spare held fuel cs x h
  rcases Go.Deep.open_slice ht h with ⟨rfl, rfl⟩ | ⟨a, len, cap, m, n, D, Pl, rfl, hb, hl, hm, hmm, rfl, hx⟩
  · exact ⟨[], ⟨none, 0, rfl, Nat.le_refl _, Kd.C_nil d w⟩, by simp, by simp [sumB, Rows.uptoBulk]⟩
  · obtain ⟨xs, h1, h2, h3, h4⟩ := slice_list ho hC hx len (by rw [hmm]; split <;> omega) (by simp only [maxLen] at hm; omega)
    subst h1
    refine ⟨xs, ⟨some a, cap, rfl, hl, h2⟩, h3, ?_⟩
    simp only [Rows.uptoBulk]
    omega
theorem arg_slice {α : Type} {d : Kd α} {wf : α → Prop} {bulk : α → Nat} {t e : TypeId} (ht : P.underlying t = some (.slice e)) (hC : P.cellsOf e = d.sz) (ho : Opens P e d wf bulk)
    {H : Type} {enc : TypeId × Value → H} {w : World} {base : Nat} {spare : Nat → Bool} {held : Bool} {v : Value} {data : DataW H} {ps : List MemPlace} {r : Reach} {b0 : Nat} (hv : Value.okWide P w r b0 t v) (h : DataW.Trod enc P w base spare held t v data ps) :
    ∃ A xs c, v = .slice A xs.length c ∧ xs.length ≤ c ∧ d.C w A xs.length xs ∧ (∀ x, x ∈ xs → wf x) ∧ sumB bulk xs + 1 ≤ Rows.uptoBulk data ∧
      (∀ (ts : List TypeId) (ds : List (DataW H)) (j B : Nat), (DataW.weightsEach P ts ds).all (· ≤ reachBytes) = true → ts[j]? = some t → ds[j]? = some data → P.bytesOf e = B → xs.length * B ≤ 140737488351232) := by
  obtain ⟨a0, len0, cap0, rfl⟩ := okWide_slice ht hv
  obtain ⟨fuel, hf⟩ := h
  rcases Go.Deep.open_slice ht hf with ⟨hcs, hx⟩ | ⟨a, len, cap, m, n, D, Pl, hcs, hb, hl, hm, hmm, hx, hi⟩
  · simp [Value.cells] at hcs
    obtain ⟨rfl, rfl, rfl⟩ := hcs
    obtain ⟨rfl, rfl⟩ := Prod.mk.inj hx
    exact ⟨none, [], 0, rfl, Nat.le_refl _, Kd.C_nil d w, by simp, by simp [sumB, Rows.uptoBulk], by simp⟩
  · simp [Value.cells] at hcs
    obtain ⟨rfl, rfl, rfl⟩ := hcs
    obtain ⟨rfl, rfl⟩ := Prod.mk.inj hx
    obtain ⟨xs, h1, h2, h3, h4⟩ := slice_list ho hC hi len0 (by rw [hmm]; split <;> omega) (by simp only [maxLen] at hm; omega)
    subst h1
    refine ⟨some a, xs, cap0, rfl, hl, h2, h3, by simp only [Rows.uptoBulk]; omega, ?_⟩
    intro ts ds j B hsz htj hdj hB
    have z := sized_slice hsz htj hdj ht
    rw [hB] at z
    have hr : reachBytes = 140737488351232 := by decide
    simp only [List.length_map, List.length_range] at z
    rw [hr] at z
    exact Nat.le_trans (Nat.mul_le_mul_right _ (by omega)) z
end
end Go.Proofs.YtdambnclbpipdaaGreatDoor.Od
namespace Go.Proofs.YtdambnclbpipdaaGreatDoor.Odo
set_option linter.unusedVariables false
set_option linter.unusedSimpArgs false
open Go.RowKit Go.Proofs.YtdambnclbpipdaaGreatDoorW.PrintWords Go.Proofs.YtdambnclbpipdaaGreatDoor.Od
theorem opens_struct3 {P : Program} {α β γ : Type} {d0 : Kd α} {d1 : Kd β} {d2 : Kd γ} {wf0 : α → Prop} {wf1 : β → Prop} {wf2 : γ → Prop} {b0 : α → Nat} {b1 : β → Nat} {b2 : γ → Nat} {t : TypeId} {fs : Array Field} {f0 f1 f2 : Field} (ht : P.underlying t = some (.struct fs)) (hn : fs.size = 3) (e0 : fs[0]? = some f0) (e1 : fs[1]? = some f1) (e2 : fs[2]? = some f2)
    (o0 : f0.offset = 0) (o1 : f1.offset = d0.sz) (o2 : f2.offset = d0.sz + d1.sz) (c0 : P.cellsOf f0.type = d0.sz) (c1 : P.cellsOf f1.type = d1.sz) (c2 : P.cellsOf f2.type = d2.sz) (hC : P.cellsOf t = d0.sz + d1.sz + d2.sz) (h0 : Opens P f0.type d0 wf0 b0) (h1 : Opens P f1.type d1 wf1 b1) (h2 : Opens P f2.type d2 wf2 b2) :
    Opens P t (Kd.pair d0 (Kd.pair d1 d2)) (fun x => wf0 x.1 ∧ wf1 x.2.1 ∧ wf2 x.2.2) (fun x => b0 x.1 + (b1 x.2.1 + b2 x.2.2) + 1) := by
  intro H enc w base spare held fuel cs x h
  obtain ⟨xs, n, _, rfl, hl, hxl, hf⟩ := DataW.trod_struct ht h
  have g0 := hf 0 f0 e0
  have g1 := hf 1 f1 e1
  have g2 := hf 2 f2 e2
  match xs, hxl.trans hn with
  | [y0, y1, y2], _ =>
    simp only [List.getElem?_cons_zero, List.getElem?_cons_succ] at g0 g1 g2
    rw [o0, c0] at g0
    rw [o1, c1] at g1
    rw [o2, c2] at g2
    obtain ⟨a, ka, wa, ba⟩ := h0 H enc w base spare held n _ _ g0
    obtain ⟨b, kb, wb, bb⟩ := h1 H enc w base spare held n _ _ g1
    obtain ⟨c, kc, wc, bc⟩ := h2 H enc w base spare held n _ _ g2
    refine ⟨(a, b, c), ⟨_, _, ?_, ka, ⟨_, _, rfl, kb, kc⟩⟩, ⟨wa, wb, wc⟩, ?_⟩
    · rw [List.drop_zero, List.take_of_length_le (i := d2.sz) (by rw [List.length_drop]; omega), ← List.drop_drop, List.take_append_drop, List.take_append_drop]
    · simp only [List.map_cons, List.map_nil, Rows.uptoBulk, Rows.uptoBulkAll]
      omega
abbrev kOp : Kd (Int × Int × List Int) := Kd.pair (Kd.int .i64) (Kd.pair (Kd.int .i64) (Kd.slice 5 (Kd.int .u8)))
def opW (o : Int × Int × List Int) : Prop := (Lit.int .i64 o.1).wf = true ∧ (Lit.int .i64 o.2.1).wf = true ∧ ∀ x ∈ o.2.2, (Lit.int .u8 x).wf = true
def opN (o : Int × Int × List Int) : Nat := 1 + (1 + (sumB (fun _ => 1) o.2.2 + 1)) + 1
theorem opens_op : Opens Tryz.prog 30 kOp opW opN :=
  opens_struct3 Tryz.underlying30 rfl rfl rfl rfl rfl rfl rfl (by kernel_rfl) (by kernel_rfl) (by kernel_rfl) (by kernel_rfl) (opens_int Tryz.underlying3) (opens_int Tryz.underlying3) (opens_slice Tryz.underlying28 (by kernel_rfl) (opens_int Tryz.underlying5))
theorem op_at {w : World} {A : Option Addr} {n : Nat} {l : List (Int × Int × List Int)} (h : kOp.C w A n l) (j : Nat) (hj : j < n) (hl : j < l.length) :
    ∃ a A1 c1, A = some a ∧ w.cell? (a.add (j * 3)) = some (.int .i64 l[j].1) ∧ w.cell? ⟨(a.add (j * 3)).block, (a.add (j * 3)).off + 1, none⟩ = some (.int .i64 l[j].2.1) ∧ w.cell? ⟨(a.add (j * 3)).block, (a.add (j * 3)).off + 2, none⟩ = some (.slice A1 l[j].2.2.length c1) ∧ l[j].2.2.length ≤ c1 ∧ (Kd.int .u8).C w A1 l[j].2.2.length l[j].2.2 := by
  obtain ⟨a, c, hA, -, hc, hcell⟩ := ReadsRow.get_ h (0, 0, []) (j : Int) (by omega) (by omega)
  have hg : l.getD (j : Int).toNat (0, 0, []) = l[j] := by simp [List.getD_eq_getElem?_getD, List.getElem?_eq_getElem hl]
  rw [hg] at hc
  obtain ⟨u1, u2, rfl, h1, u3, u4, rfl, h2, A1, c1, rfl, h3, h4⟩ := hc
  obtain rfl : u1 = [.int .i64 l[j].1] := h1
  obtain rfl : u3 = [.int .i64 l[j].2.1] := h2
  have e1 := hcell 1 _ rfl
  have e2 := hcell 2 _ rfl
  rw [add_field _ _ _ (by decide)] at e1 e2
  exact ⟨a, A1, c1, hA, hcell 0 _ rfl, e1, e2, h3, h4⟩
end Go.Proofs.YtdambnclbpipdaaGreatDoor.Odo
namespace Go.Proofs.YtdambnclbpipdaaGreatDoor.Ma
set_option linter.unusedVariables false
set_option linter.unusedSimpArgs false
open Go.Maps
def RV (v : Value) : Option (DataW Value × List MemPlace) := some (.held v, [])
def vlD (z : Value) (D : DataW Value) (kl : Lit) : Value := match D.atKey kl (.held z) with | .held v => v | _ => z
abbrev np : Value := .pointer none
abbrev ik (id : Int) : Lit := .int .i64 id
abbrev at0 (a : Nat) : Value := .pointer (some ⟨a, 0, none⟩)
section
variable {z : Value} {D : DataW Value} {k k' : Lit} {v : Value}
theorem vl_none (h : has D k = false) : vlD z D k = z := by unfold vlD; rw [atKey_of_not_has h]
theorem ikl (id : Int) : WideAt.IsKeyLit (ik id) := trivial
theorem no_has {k : Lit} (h : has (.map [] : DataW Value) k = true) : False := by cases h
theorem vl_put (hD : IsMap D) (hk : WideAt.IsKeyLit k) : vlD z (D.put k (.held v)) k = v := by unfold vlD; rw [atKey_put_same hD hk]
theorem vl_put_ne (h : k' ≠ k) : vlD z (D.put k (.held v)) k' = vlD z D k' := by unfold vlD; rw [atKey_put_other h]
theorem vl_del : vlD z (D.del k) k = z := by unfold vlD; rw [atKey_del_same]
theorem vl_del_ne (h : k' ≠ k) : vlD z (D.del k) k' = vlD z D k' := by unfold vlD; rw [atKey_del_other h]
theorem ik_ne {a b : Int} (h : a ≠ b) : ik a ≠ ik b := fun e => h (by injection e)
end
structure En where
  id : Int
  run : Int
  b : List Int
structure Rn where
  n : Int
  blk : Nat
  D : DataW Value
def atE (L : List En) (id : Int) : Option En := L.find? (fun e => e.id == id)
def cntB (L : List En) : Nat := (L.filter (fun e => e.run == 0)).length
def insE (e : En) : List En → List En
  | [] => [e]
  | x :: t => if e.id < x.id then e :: x :: t else x :: insE e t
def Srt (L : List En) : Prop := L.Pairwise (fun a b => a.id < b.id)
def delE (id : Int) (L : List En) : List En := L.filter (fun e => e.id != id)
def toRun (n : Int) (L : List En) : List En := L.map (fun e => if e.run = 0 then { e with run := n } else e)
def allRun (n : Int) (L : List En) : List En := L.map (fun e => { e with run := n })
theorem mem_ins (e x : En) : ∀ L, x ∈ insE e L ↔ x = e ∨ x ∈ L
  | [] => by simp [insE]
  | y :: t => by
    unfold insE
    split
    · simp
    · simp only [List.mem_cons, mem_ins e x t]
      constructor
      · rintro (h | h | h) <;> simp [h]
      · rintro (h | h | h) <;> simp [h]
theorem atE_mem {L : List En} {id : Int} {e : En} (h : atE L id = some e) : e ∈ L ∧ e.id = id := ⟨List.mem_of_find?_eq_some h, by simpa using List.find?_some h⟩
theorem atE_none {L : List En} {id : Int} : atE L id = none ↔ ∀ e ∈ L, e.id ≠ id := by
  unfold atE
  simp
theorem srt_at : ∀ {L : List En}, Srt L → ∀ {e : En}, e ∈ L → atE L e.id = some e
  | x :: t, h, e, he => by
    obtain ⟨h1, h2⟩ := List.pairwise_cons.1 h
    unfold atE
    rw [List.find?_cons]
    rcases List.mem_cons.1 he with rfl | he
    · simp
    · have := h1 e he
      rw [show (x.id == e.id) = false from by simp; omega]
      exact srt_at h2 he
theorem at_ins (e : En) (id : Int) : ∀ L : List En, atE L e.id = none → atE (insE e L) id = if id = e.id then some e else atE L id
  | [], _ => by
    unfold insE atE
    by_cases h : id = e.id
    · rw [if_pos h]; simp [h]
    · rw [if_neg h]; simp; exact fun h2 => h h2.symm
  | x :: t, hn => by
    have hx : x.id ≠ e.id := (atE_none.1 hn) x (by simp)
    have ht : atE t e.id = none := atE_none.2 fun y hy => atE_none.1 hn y (by simp [hy])
    have ih := at_ins e id t ht
    unfold insE
    split
    · unfold atE
      rw [List.find?_cons]
      by_cases h : id = e.id
      · rw [if_pos h]; simp [h]
      · rw [if_neg h, show (e.id == id) = false from by simp; exact fun h2 => h h2.symm]
    · unfold atE at ih ⊢
      rw [List.find?_cons, List.find?_cons]
      by_cases h : x.id = id
      · rw [show (x.id == id) = true by simpa using h, if_neg (by omega)]
      · rw [show (x.id == id) = false by simpa using h]
        exact ih
theorem srt_ins (e : En) : ∀ L : List En, Srt L → atE L e.id = none → Srt (insE e L)
  | [], _, _ => by unfold insE Srt; simp
  | x :: t, h, hn => by
    obtain ⟨h1, h2⟩ := List.pairwise_cons.1 h
    have hx : x.id ≠ e.id := (atE_none.1 hn) x (by simp)
    have ht : atE t e.id = none := atE_none.2 fun y hy => atE_none.1 hn y (by simp [hy])
    unfold insE
    split
    · rename_i hlt
      refine List.pairwise_cons.2 ⟨fun y hy => ?_, h⟩
      rcases List.mem_cons.1 hy with rfl | hy
      · exact hlt
      · have := h1 y hy; omega
    · refine List.pairwise_cons.2 ⟨fun y hy => ?_, srt_ins e t h2 ht⟩
      rcases (mem_ins e y t).1 hy with rfl | hy
      · omega
      · exact h1 y hy
theorem len_ins (e : En) : ∀ L : List En, (insE e L).length = L.length + 1
  | [] => rfl
  | x :: t => by
    unfold insE
    split
    · rfl
    · simp [len_ins e t]
theorem cnt_ins (e : En) (h : e.run = 0) : ∀ L : List En, cntB (insE e L) = cntB L + 1
  | [] => by simp [insE, cntB, h]
  | x :: t => by
    have ih := cnt_ins e h t
    unfold cntB at ih ⊢
    unfold insE
    split
    · rw [List.filter_cons_of_pos (by simpa using h), List.length_cons]
    · rw [List.filter_cons, List.filter_cons]
      split <;> simp [ih]
theorem at_map (f : En → En) (hf : ∀ e, (f e).id = e.id) (id : Int) : ∀ L : List En, atE (L.map f) id = (atE L id).map f
  | [] => rfl
  | x :: t => by
    have ih := at_map f hf id t
    unfold atE at ih ⊢
    rw [List.map_cons, List.find?_cons, List.find?_cons, hf]
    cases x.id == id
    · exact ih
    · rfl
theorem srt_map (f : En → En) (hf : ∀ e, (f e).id = e.id) {L : List En} (h : Srt L) : Srt (L.map f) := by
  unfold Srt at h ⊢
  rw [List.pairwise_map]
  exact h.imp (fun hab => by rw [hf, hf]; exact hab)
theorem at_del (id0 id : Int) : ∀ L : List En, atE (delE id0 L) id = if id = id0 then none else atE L id
  | [] => by unfold delE atE; simp
  | x :: t => by
    have ih := at_del id0 id t
    unfold delE atE at ih ⊢
    rw [List.filter_cons, List.find?_cons]
    by_cases h : x.id = id0
    · rw [if_neg (by simpa using h), ih]
      by_cases h2 : id = id0
      · rw [if_pos h2, if_pos h2]
      · rw [if_neg h2, if_neg h2, show (x.id == id) = false from by simp; omega]
    · rw [if_pos (by simpa using h), List.find?_cons]
      by_cases h2 : x.id = id
      · rw [show (x.id == id) = true by simpa using h2, if_neg (by omega)]
      · rw [show (x.id == id) = false by simpa using h2]
        exact ih
theorem srt_del {L : List En} (h : Srt L) (id : Int) : Srt (delE id L) := h.filter _
theorem del_cons_ne {x : En} {id : Int} (h : x.id ≠ id) (t : List En) : delE id (x :: t) = x :: delE id t := by unfold delE; rw [List.filter_cons_of_pos (by simpa using h)]
theorem del_id : ∀ {L : List En} {id : Int}, (∀ e ∈ L, e.id ≠ id) → delE id L = L := fun h => List.filter_eq_self.2 (fun e he => by simpa using h e he)
theorem len_del : ∀ {L : List En} {id : Int} {e : En}, Srt L → atE L id = some e → (delE id L).length + 1 = L.length ∧ cntB L = cntB (delE id L) + (if e.run = 0 then 1 else 0)
  | x :: t, id, e, h, he => by
    obtain ⟨h1, h2⟩ := List.pairwise_cons.1 h
    unfold atE at he
    rw [List.find?_cons] at he
    by_cases hx : x.id = id
    · rw [show (x.id == id) = true by simpa using hx] at he
      obtain rfl : x = e := by injection he
      have e1 : delE id (x :: t) = t := by
        unfold delE
        rw [List.filter_cons_of_neg (by simpa using hx)]
        exact del_id (fun y hy => by have := h1 y hy; omega)
      rw [e1]
      refine ⟨rfl, ?_⟩
      unfold cntB
      rw [List.filter_cons]
      by_cases h0 : x.run = 0
      · rw [if_pos (by simpa using h0), if_pos h0]; rfl
      · rw [if_neg (by simpa using h0), if_neg h0]; rfl
    · rw [show (x.id == id) = false by simpa using hx] at he
      obtain ⟨i1, i2⟩ := len_del h2 he
      rw [del_cons_ne hx]
      refine ⟨by simp [i1], ?_⟩
      unfold cntB at i2 ⊢
      rw [List.filter_cons, List.filter_cons]
      split <;> simp [i2] <;> omega
theorem cnt_toRun {n : Int} (hn : n ≠ 0) : ∀ L : List En, cntB (toRun n L) = 0
  | [] => rfl
  | x :: t => by
    have ih := cnt_toRun hn t
    unfold cntB toRun at ih ⊢
    rw [List.map_cons]
    by_cases h : x.run = 0
    · rw [if_pos h, List.filter_cons_of_neg (by simpa using hn)]
      exact ih
    · rw [if_neg h, List.filter_cons_of_neg (by simpa using h)]
      exact ih
theorem cnt_allRun {n : Int} (hn : n ≠ 0) : ∀ L : List En, cntB (allRun n L) = 0
  | [] => rfl
  | x :: t => by
    have ih := cnt_allRun hn t
    unfold cntB allRun at ih ⊢
    rw [List.map_cons, List.filter_cons_of_neg (by simpa using hn)]
    exact ih
def pfE (ad : Int → Nat) (o : Option En) (r : Int) : Value := match o with | some e => if e.run = r then at0 (ad e.id) else np | none => np
def lvE (ad : Int → Nat) (o : Option En) : Value := match o with | some e => at0 (ad e.id) | none => np
theorem at0_ne (a : Nat) : at0 a ≠ np := fun h => by cases h
def NN (D : DataW Value) : Prop := ∀ id, has D (ik id) = true → ∃ a, vlD np D (ik id) = at0 a
theorem NN.ne {D : DataW Value} (h : NN D) {id : Int} (hh : has D (ik id) = true) : vlD np D (ik id) ≠ np := by
  obtain ⟨a, e⟩ := h id hh
  rw [e]
  exact at0_ne a
abbrev oneV (b : Bool) : Value := .int .i64 (if b = true then 1 else 0)
def Ones (D : DataW Value) : Prop := ∀ k, vlD (.int .i64 0) D k = oneV (has D k)
theorem ones_empty : Ones (.map []) := fun _ => rfl
structure GoodX (gk : Int → Int → Lit) (ad : Int → Nat) (L : List En) (num : Int) (Db Dd : DataW Value) (RS : List Rn) (dead : Nat) : Prop where
  buf : ∀ id, vlD np Db (ik id) = pfE ad (atE L id) 0
  run : ∀ r ∈ RS, ∀ id, (if has Dd (gk r.n id) then np else vlD np r.D (ik id)) = pfE ad (atE L id) r.n
  ex : ∀ e ∈ L, e.run = 0 ∨ ∃ r ∈ RS, r.n = e.run
  nums : RS.Pairwise (fun a b => a.n < b.n)
  rng : ∀ r ∈ RS, 1 ≤ r.n ∧ r.n ≤ num
  num0 : 0 ≤ num
  dle : ∀ n id, (Lit.int .i64 n).wf = true → (Lit.int .i64 id).wf = true → has Dd (gk n id) = true → n ≤ num
  sb : size Db = cntB L
  sd : size Dd = dead
  one : Ones Dd
  srt : Srt L
  nnb : NN Db
  nnr : ∀ r ∈ RS, NN r.D
theorem pf_ne {ad : Int → Nat} {o : Option En} {r : Int} : pfE ad o r ≠ np ↔ ∃ e, o = some e ∧ e.run = r := by
  unfold pfE
  cases o with
  | none => simp
  | some e =>
    by_cases h : e.run = r
    · simp [h]
    · simp [h]
theorem pf_set {ad : Int → Nat} {L : List En} {id0 : Int} {a : Nat} (h : atE L id0 = none) (id : Int) (r : Int) : pfE (fun i => if i = id0 then a else ad i) (atE L id) r = pfE ad (atE L id) r := by
  cases he : atE L id with
  | none => rfl
  | some e =>
    have hm := atE_mem he
    have := atE_none.1 h e hm.1
    unfold pfE
    simp only
    rw [if_neg this]
theorem good_new (gk : Int → Int → Lit) (ad : Int → Nat) : GoodX gk ad [] 0 (.map []) (.map []) [] 0 :=
  ⟨fun _ => rfl, fun _ h => (by cases h), fun _ h => (by cases h), List.Pairwise.nil, fun _ h => (by cases h), Int.le_refl _, fun _ _ _ _ h => (no_has h).elim, rfl, rfl, ones_empty, List.Pairwise.nil, fun _ h => (no_has h).elim, fun _ h => by cases h⟩
section
variable {gk : Int → Int → Lit} {ad : Int → Nat} {L : List En} {num : Int} {Db Dd : DataW Value} {RS : List Rn} {dead : Nat}
theorem GoodX.has_buf (h : GoodX gk ad L num Db Dd RS dead) (id : Int) : has Db (ik id) = true ↔ ∃ e, atE L id = some e ∧ e.run = 0 := by
  rw [← pf_ne (ad := ad), ← h.buf]
  constructor
  · exact h.nnb.ne
  · intro h1
    cases hh : has Db (ik id)
    · exact absurd (vl_none hh) h1
    · rfl
theorem good_add (h : GoodX gk ad L num Db Dd RS dead) (hD : Tidy Db) {id : Int} {b : List Int} {a : Nat} (hn : atE L id = none) :
    GoodX gk (fun i => if i = id then a else ad i) (insE ⟨id, 0, b⟩ L) num (Db.put (ik id) (.held (at0 a))) Dd RS dead := by
  have hi := at_ins ⟨id, 0, b⟩
  have hnb : has Db (ik id) = false := by
    cases hh : has Db (ik id)
    · rfl
    · obtain ⟨e, he, _⟩ := (h.has_buf id).1 hh; rw [hn] at he; cases he
  refine ⟨fun i => ?_, fun r hr i => ?_, fun e he => ?_, h.nums, h.rng, h.num0, h.dle, ?_, h.sd, h.one, srt_ins _ _ h.srt hn, fun i hi2 => ?_, h.nnr⟩
  · rw [hi i L hn]
    by_cases e : i = id
    · subst e
      rw [vl_put hD.isMap (ikl _), if_pos rfl]
      simp [pfE]
    · rw [vl_put_ne (ik_ne e), if_neg e, h.buf, pf_set hn]
  · rw [hi i L hn, h.run r hr i]
    by_cases e : i = id
    · subst e
      have := (h.rng r hr).1
      rw [if_pos rfl, hn]
      unfold pfE
      simp only
      rw [if_neg (by omega)]
    · rw [if_neg e, pf_set hn]
  · rcases (mem_ins _ _ _).1 he with rfl | he
    · exact .inl rfl
    · exact h.ex e he
  · rw [size_put hD, hnb, cnt_ins _ rfl, h.sb]; rfl
  · by_cases e : i = id
    · subst e
      exact ⟨a, vl_put hD.isMap (ikl _)⟩
    · rw [vl_put_ne (ik_ne e)]
      exact h.nnb i (by rw [has_put_other (ik_ne e)] at hi2; exact hi2)
theorem pf_toRun {n : Int} (hL : ∀ e ∈ L, e.run ≠ n) (hn : n ≠ 0) (id r : Int) : pfE ad (atE (toRun n L) id) r = if r = 0 then np else if r = n then pfE ad (atE L id) 0 else pfE ad (atE L id) r := by
  unfold toRun
  rw [at_map _ (fun e => by split <;> rfl)]
  cases he : atE L id with
  | none => simp [pfE]
  | some e =>
    have := hL e (atE_mem he).1
    unfold pfE
    simp only [Option.map_some]
    by_cases h0 : e.run = 0
    · simp only [h0, if_true]
      by_cases h1 : r = 0
      · rw [if_pos h1, if_neg (by omega)]
      · rw [if_neg h1]
        by_cases h2 : r = n
        · simp [h2]
        · rw [if_neg h2, if_neg (fun e => h2 e.symm), if_neg (fun e => h1 e.symm)]
    · simp only [h0, if_false]
      by_cases h1 : r = 0
      · rw [if_pos h1, if_neg (by omega)]
      · rw [if_neg h1]
        by_cases h2 : r = n
        · rw [if_pos h2, if_neg (by omega)]
        · rw [if_neg h2]
theorem GoodX.run_lt (h : GoodX gk ad L num Db Dd RS dead) : ∀ e ∈ L, e.run ≤ num := by
  intro e he
  rcases h.ex e he with h1 | ⟨r, hr, h1⟩
  · have := h.num0; omega
  · have := (h.rng r hr).2; omega
theorem good_flush (hG : GoodX gk ad L num Db Dd RS dead) (hnum : (Lit.int .i64 (num + 1)).wf = true) (hk : ∀ id, has Db (ik id) = true → (Lit.int .i64 id).wf = true) (bm : Nat) :
    GoodX gk ad (toRun (num + 1) L) (num + 1) (.map []) Dd (RS ++ [⟨num + 1, bm, Db⟩]) dead := by
  have h0 := hG.num0
  have hne : ∀ e ∈ L, e.run ≠ num + 1 := fun e he => by have := hG.run_lt e he; omega
  have hp := fun id r => pf_toRun (ad := ad) (n := num + 1) hne (by omega) id r
  refine ⟨fun id => by rw [hp, if_pos rfl]; rfl, fun r hr id => ?_, fun e he => ?_, ?_, fun r hr => ?_, by omega, fun n id h1 h2 h3 => by have := hG.dle n id h1 h2 h3; omega, ?_, hG.sd, hG.one, ?_, fun _ h => (no_has h).elim, fun r hr => ?_⟩
  · rw [hp]
    rcases List.mem_append.1 hr with hr | hr
    · have := hG.rng r hr
      rw [if_neg (show ¬ r.n = 0 by omega), if_neg (show ¬ r.n = num + 1 by omega)]
      exact hG.run r hr id
    · obtain rfl := List.mem_singleton.1 hr
      simp only
      rw [if_neg (show ¬ num + 1 = 0 by omega), if_pos trivial, ← hG.buf]
      cases hd : has Dd (gk (num + 1) id)
      · rfl
      · cases hw : (Lit.int .i64 id).wf with
        | true => have := hG.dle (num + 1) id hnum hw hd; omega
        | false =>
          cases hb : has Db (ik id)
          · rw [vl_none hb]; rfl
          · rw [hk id hb] at hw; cases hw
  · obtain ⟨x, hx, rfl⟩ := List.mem_map.1 he
    by_cases h1 : x.run = 0
    · exact .inr ⟨_, List.mem_append_right _ (List.mem_singleton.2 rfl), by rw [if_pos h1]⟩
    · rw [if_neg h1]
      rcases hG.ex x hx with h2 | ⟨r, hr, h2⟩
      · exact absurd h2 h1
      · exact .inr ⟨r, List.mem_append_left _ hr, h2⟩
  · refine List.pairwise_append.2 ⟨hG.nums, List.pairwise_singleton _ _, fun a ha b hb => ?_⟩
    obtain rfl := List.mem_singleton.1 hb
    have := (hG.rng a ha).2
    simp only
    omega
  · rcases List.mem_append.1 hr with hr | hr
    · have := hG.rng r hr; omega
    · obtain rfl := List.mem_singleton.1 hr
      simp only
      omega
  · rw [cnt_toRun (by omega)]; rfl
  · exact srt_map _ (fun e => by split <;> rfl) hG.srt
  · rcases List.mem_append.1 hr with hr | hr
    · exact hG.nnr r hr
    · obtain rfl := List.mem_singleton.1 hr
      exact hG.nnb
theorem pf_del (id0 id r : Int) : pfE ad (atE (delE id0 L) id) r = if id = id0 then np else pfE ad (atE L id) r := by
  rw [at_del]
  split <;> rfl
theorem good_del_buf (hG : GoodX gk ad L num Db Dd RS dead) (hD : Tidy Db) {id : Int} {e : En} (he : atE L id = some e) (h0 : e.run = 0) : GoodX gk ad (delE id L) num (Db.del (ik id)) Dd RS dead := by
  refine ⟨fun i => ?_, fun r hr i => ?_, fun x hx => hG.ex x (List.mem_filter.1 hx).1, hG.nums, hG.rng, hG.num0, hG.dle, ?_, hG.sd, hG.one, srt_del hG.srt id, fun i hi => ?_, hG.nnr⟩
  · rw [pf_del]
    by_cases h : i = id
    · subst h; rw [if_pos rfl, vl_del]
    · rw [if_neg h, vl_del_ne (ik_ne h), hG.buf]
  · rw [pf_del, hG.run r hr i]
    by_cases h : i = id
    · subst h
      have := (hG.rng r hr).1
      rw [if_pos rfl, he]
      unfold pfE
      simp only
      rw [if_neg (by omega)]
    · rw [if_neg h]
  · have h1 := (len_del hG.srt he).2
    have h2 := size_del (k := ik id) hD
    rw [(hG.has_buf id).2 ⟨e, he, h0⟩, hG.sb] at h2
    simp only [h0, if_true] at h1 h2
    omega
  · by_cases h : i = id
    · subst h; rw [has_del_same] at hi; cases hi
    · rw [has_del_other (ik_ne h)] at hi
      rw [vl_del_ne (ik_ne h)]
      exact hG.nnb i hi
theorem good_del_run (hG : GoodX gk ad L num Db Dd RS dead) (hD : Tidy Dd) {id : Int} {e : En} (he : atE L id = some e) (h0 : e.run ≠ 0)
    (hgk : ∀ n i, (Lit.int .i64 n).wf = true → (Lit.int .i64 i).wf = true → gk n i = gk e.run id → n = e.run ∧ i = id) (hnw : ∀ r ∈ RS, (Lit.int .i64 r.n).wf = true) (hrk : ∀ r ∈ RS, ∀ i, has r.D (ik i) = true → (Lit.int .i64 i).wf = true) (hgl : WideAt.IsKeyLit (gk e.run id)) :
    GoodX gk ad (delE id L) num Db (Dd.put (gk e.run id) (.held (.int .i64 1))) RS (dead + 1) := by
  obtain ⟨r0, hr0, hrn⟩ := (hG.ex e (atE_mem he).1).resolve_left h0
  have hnd : has Dd (gk e.run id) = false := by
    have := hG.run r0 hr0 id
    rw [he, hrn] at this
    cases hh : has Dd (gk e.run id)
    · rfl
    · rw [hh] at this
      simp only [if_true, pfE] at this
      exact absurd this.symm (at0_ne _)
  refine ⟨fun i => ?_, fun r hr i => ?_, fun x hx => hG.ex x (List.mem_filter.1 hx).1, hG.nums, hG.rng, hG.num0, fun n i hn hi hh => ?_, ?_, ?_, fun k => ?_, srt_del hG.srt id, hG.nnb, hG.nnr⟩
  · rw [pf_del, hG.buf]
    by_cases h : i = id
    · subst h; rw [if_pos rfl, he]; unfold pfE; simp only; rw [if_neg h0]
    · rw [if_neg h]
  · rw [pf_del]
    by_cases hs : gk r.n i = gk e.run id
    · have : has (Dd.put (gk e.run id) (.held (.int .i64 1))) (gk r.n i) = true := by rw [hs, has_put_same hD.isMap hgl]
      rw [this]
      simp only [if_true]
      by_cases hiw : (Lit.int .i64 i).wf = true
      · obtain ⟨-, h2⟩ := hgk r.n i (hnw r hr) hiw hs
        rw [if_pos h2]
      · have hx := hG.run r hr i
        have hz : vlD np r.D (ik i) = np := by
          refine vl_none ?_
          cases hb : has r.D (ik i)
          · rfl
          · exact absurd (hrk r hr i hb) hiw
        rw [hz, ite_self] at hx
        split
        · rfl
        · exact hx
    · rw [has_put_other hs, hG.run r hr i]
      by_cases h : i = id
      · subst h
        rw [if_pos rfl, he]
        unfold pfE
        simp only
        rw [if_neg (fun hh => hs (by rw [hh]))]
      · rw [if_neg h]
  · by_cases hs : gk n i = gk e.run id
    · rw [(hgk n i hn hi hs).1]
      exact hG.run_lt e (atE_mem he).1
    · rw [has_put_other hs] at hh
      exact hG.dle n i hn hi hh
  · rw [hG.sb]
    have h1 := (len_del hG.srt he).2
    rw [if_neg h0] at h1
    omega
  · rw [size_put hD, hnd, ← hG.sd]; rfl
  · by_cases hs : k = gk e.run id
    · subst hs
      rw [vl_put hD.isMap hgl, has_put_same hD.isMap hgl]
      rfl
    · rw [vl_put_ne hs, has_put_other hs, hG.one]
def LiveX (ad : Int → Nat) (L : List En) (D : DataW Value) : Prop := (∀ id, vlD np D (ik id) = lvE ad (atE L id)) ∧ NN D
theorem LiveX.has {D : DataW Value} (h : LiveX ad L D) (id : Int) : has D (ik id) = true ↔ ∃ e, atE L id = some e := by
  constructor
  · intro h1
    have h2 := h.2.ne h1
    rw [h.1] at h2
    cases he : atE L id with
    | none => rw [he] at h2; exact absurd rfl h2
    | some e => exact ⟨e, rfl⟩
  · rintro ⟨e, he⟩
    cases hh : Go.Maps.has D (ik id)
    · have := h.1 id
      rw [vl_none hh, he] at this
      exact absurd this.symm (at0_ne _)
    · rfl
theorem pf_allRun {n : Int} (id : Int) : pfE ad (atE (allRun n L) id) n = lvE ad (atE L id) := by
  unfold allRun
  rw [at_map (fun e => { e with run := n }) (fun e => rfl)]
  cases atE L id with
  | none => rfl
  | some e => simp [pfE, lvE]
theorem pf_allRun_ne {n r : Int} (h : n ≠ r) (id : Int) : pfE ad (atE (allRun n L) id) r = np := by
  unfold allRun
  rw [at_map (fun e => { e with run := n }) (fun e => rfl)]
  cases atE L id with
  | none => rfl
  | some e => simp [pfE, h]
theorem good_one {D : DataW Value} (hL : LiveX ad L D) (hs : Srt L) (h0 : 0 ≤ num) (bm : Nat) : GoodX gk ad (allRun (num + 1) L) (num + 1) (.map []) (.map []) [⟨num + 1, bm, D⟩] 0 := by
  refine ⟨fun id => by rw [pf_allRun_ne (by omega)]; rfl, fun r hr id => ?_, fun e he => ?_, List.pairwise_singleton _ _, fun r hr => ?_, by omega, fun _ _ _ _ h => (no_has h).elim, ?_, rfl, ones_empty, srt_map (fun e => { e with run := num + 1 }) (fun _ => rfl) hs, fun _ h => (no_has h).elim, fun r hr => ?_⟩
  · obtain rfl := List.mem_singleton.1 hr
    rw [pf_allRun, ← hL.1]
    rfl
  · obtain ⟨x, hx, rfl⟩ := List.mem_map.1 he
    exact .inr ⟨_, List.mem_singleton.2 rfl, rfl⟩
  · obtain rfl := List.mem_singleton.1 hr
    simp only
    omega
  · rw [cnt_allRun (by omega)]; rfl
  · obtain rfl := List.mem_singleton.1 hr
    exact hL.2
theorem good_none (hL : L = []) (h0 : 0 ≤ num) : GoodX gk ad L num (.map []) (.map []) [] 0 := by
  subst hL
  exact ⟨fun _ => rfl, fun _ h => (by cases h), fun _ h => (by cases h), List.Pairwise.nil, fun _ h => (by cases h), h0, fun _ _ _ _ h => (no_has h).elim, rfl, rfl, ones_empty, List.Pairwise.nil, fun _ h => (no_has h).elim, fun _ h => by cases h⟩
end
end Go.Proofs.YtdambnclbpipdaaGreatDoor.Ma
namespace Go.Proofs.YtdambnclbpipdaaGreatDoor.Fm
set_option linter.unusedVariables false
set_option linter.unusedSimpArgs false
open Go.RowKit Go.Proofs.YtdambnclbpipdaaGreatDoorW.PrintWords Go.Proofs.YtdambnclbpipdaaGreatDoor.Hp
structure Th where
  P : (Nat → Prop) → World → Prop
  loc : ∀ {ok w w'}, P ok w → (∀ k, ok k → k < w.heap.size → w'.heap[k]? = w.heap[k]?) → P ok w'
  bnd : ∀ {ok w}, P ok w → P (fun k => ok k ∧ k < w.heap.size) w
def rowT {α : Type} (d : Kd α) (e : Nat) (base : Nat) (v : Value) (xs : List α) : Th :=
  ⟨fun ok w => d.R e w base ok v xs, fun h hm => Kd.R_step h hm, fun h => Kd.R_mono (Kd.R_bound h) (fun _ hk => ⟨hk.1, hk.2.2.1⟩)⟩
def Sep (w0 : World) (L : List Th) (w : World) : Prop :=
  ∃ ok : Nat → Nat → Prop, (∀ (i : Nat) (T : Th), L[i]? = some T → T.P (ok i) w) ∧ (∀ i j b, i ≠ j → ok i b → ¬ ok j b) ∧ (∀ i b, ok i b → w0.heap.size ≤ b ∧ b < w.heap.size) ∧ Below w0.heap.size w0 w
section
variable {w0 w w' : World} {L : List Th} {T T' T2 : Th}
theorem Sep.below (h : Sep w0 L w) : Below w0.heap.size w0 w := by obtain ⟨_, _, _, _, h⟩ := h; exact h
theorem Sep.nil (w0 : World) : Sep w0 [] w0 := ⟨fun _ _ => False, by simp, by simp, by simp, Below.refl _ _⟩
theorem Sep.start (h : Below w0.heap.size w0 w) : Sep w0 [] w := ⟨fun _ _ => False, by simp, by simp, by simp, h⟩
theorem Sep.later (h : Sep w0 L w) (hb : Below w.heap.size w w') : Sep w0 L w' := by
  obtain ⟨ok, h1, h2, h3, h4⟩ := h
  exact ⟨ok, fun i T hT => T.loc (h1 i T hT) (fun k _ hlt => hb.block k hlt), h2, fun i b hb' => ⟨(h3 i b hb').1, Nat.lt_of_lt_of_le (h3 i b hb').2 hb.size⟩, below_then h4 h4.size hb⟩
theorem Sep.one (h : Sep w0 L w) (i : Nat) (T : Th) (hi : L[i]? = some T) : ∃ ok : Nat → Prop, T.P ok w := by
  obtain ⟨ok, h1, _⟩ := h
  exact ⟨ok i, h1 i T hi⟩
theorem Sep.op2 (h : Sep w0 L w) (i : Nat) (T : Th) (hi : L[i]? = some T) :
    ∃ ok : Nat → Prop, T.P ok w ∧ (∀ b, ok b → w0.heap.size ≤ b) ∧ ∀ (w' : World) (T' T2 : Th) (ok' ok2 : Nat → Prop), T'.P ok' w' → T2.P ok2 w' → (∀ b, ok' b → ok b ∨ w.heap.size ≤ b) → (∀ b, ok2 b → w.heap.size ≤ b) → (∀ b, ok' b → ¬ ok2 b) → Chg ok w w' →
      Sep w0 (L.set i T' ++ [T2]) w' := by
  obtain ⟨ok, h1, h2, h3, h4⟩ := h
  refine ⟨ok i, h1 i T hi, fun b hb => (h3 i b hb).1, fun w' T' T2 ok' ok2 p1 p2 hs hs2 hd hc => ⟨fun j b => if j = i then ok' b ∧ b < w'.heap.size else if j = L.length then ok2 b ∧ b < w'.heap.size else ok j b, ?_, ?_, ?_, ?_⟩⟩
  · intro j U hj
    have hil : i < L.length := (List.getElem?_eq_some_iff.1 hi).1
    rw [List.getElem?_append, List.length_set] at hj
    split at hj
    · rename_i hjl
      by_cases e : j = i
      · subst e
        rw [List.getElem?_set_self hil] at hj
        injection hj with hj
        subst hj
        simp only [if_true]
        exact T'.bnd p1
      · rw [List.getElem?_set_ne (Ne.symm e)] at hj
        simp only [if_neg e, if_neg (show ¬ j = L.length by omega)]
        exact U.loc (h1 j U hj) (fun b hb hlt => hc.keep b hlt (fun hb2 => h2 j i b e hb hb2))
    · rename_i hjl
      rcases Nat.lt_or_ge (j - L.length) 1 with h5 | h5
      · have e : j = L.length := by omega
        subst e
        simp at hj
        subst hj
        simp only [if_neg (show ¬ L.length = i by omega), if_true]
        exact T2.bnd p2
      · rw [List.getElem?_eq_none (by simpa using h5)] at hj; cases hj
  · intro j l b hjl hj hl
    have old : ∀ m c, ok m c → c < w.heap.size := fun m c hm => (h3 m c hm).2
    split at hj
    · split at hl
      · omega
      · split at hl
        · exact hd b hj.1 hl.1
        · rcases hs b hj.1 with h | h
          · rename_i ej el _
            exact h2 i l b (Ne.symm el) h hl
          · have := old l b hl; omega
    · rename_i ej
      split at hj
      · split at hl
        · exact hd b hl.1 hj.1
        · rename_i el
          split at hl
          · omega
          · have := hs2 b hj.1; have := old l b hl; omega
      · split at hl
        · rcases hs b hl.1 with h | h
          · exact h2 j i b ej hj h
          · have := old j b hj; omega
        · split at hl
          · have := hs2 b hl.1; have := old j b hj; omega
          · exact h2 j l b hjl hj hl
  · intro j b hj
    split at hj
    · refine ⟨?_, hj.2⟩
      rcases hs b hj.1 with h | h
      · exact (h3 i b h).1
      · have := h4.size; omega
    · split at hj
      · have := h4.size; have := hs2 b hj.1; exact ⟨by omega, hj.2⟩
      · exact ⟨(h3 j b hj).1, Nat.lt_of_lt_of_le (h3 j b hj).2 hc.size⟩
  · exact hc.below_of h4 (fun b hb => (h3 i b hb).1)
theorem Sep.init (h : Sep w0 (L ++ [T]) w) : Sep w0 L w := by
  obtain ⟨ok, h1, h2, h3, h4⟩ := h
  exact ⟨ok, fun i U hU => h1 i U (by rw [List.getElem?_append_left (List.getElem?_eq_some_iff.1 hU).1]; exact hU), h2, h3, h4⟩
def noT : Th := ⟨fun _ _ => True, fun _ _ => trivial, fun _ => trivial⟩
theorem Sep.op (h : Sep w0 L w) (i : Nat) (T : Th) (hi : L[i]? = some T) :
    ∃ ok : Nat → Prop, T.P ok w ∧ (∀ b, ok b → w0.heap.size ≤ b) ∧ ∀ (w' : World) (T' : Th) (ok' : Nat → Prop), T'.P ok' w' → (∀ b, ok' b → ok b ∨ w.heap.size ≤ b) → Chg ok w w' → Sep w0 (L.set i T') w' := by
  obtain ⟨ok, h1, h2, h3⟩ := h.op2 i T hi
  exact ⟨ok, h1, h2, fun w' T' ok' p1 hs hc => (h3 w' T' noT ok' (fun _ => False) p1 trivial hs (fun _ hb => hb.elim) (fun _ _ hb => hb) hc).init⟩
theorem Sep.new (h : Sep w0 L w) (T : Th) {ok : Nat → Prop} (hs : T.P ok w') (hn : ∀ b, ok b → w.heap.size ≤ b) (hb : Below w.heap.size w w') : Sep w0 (L ++ [T]) w' := by
  have hl := h.later hb
  obtain ⟨oks, h1, h2, h3, h4⟩ := h
  obtain ⟨_, _, _, _, h5⟩ := hl
  refine ⟨fun j b => if j = L.length then ok b ∧ b < w'.heap.size else oks j b, ?_, ?_, ?_, h5⟩
  · intro j U hj
    rw [List.getElem?_append] at hj
    split at hj
    · simp only [if_neg (show ¬ j = L.length by omega)]
      exact U.loc (h1 j U hj) (fun b _ hlt => hb.block b hlt)
    · rcases Nat.lt_or_ge (j - L.length) 1 with h6 | h6
      · have e : j = L.length := by omega
        subst e
        simp at hj
        subst hj
        simp only [if_true]
        exact T.bnd hs
      · rw [List.getElem?_eq_none (by simpa using h6)] at hj; cases hj
  · intro j l b hjl hj hl
    split at hj
    · split at hl
      · omega
      · have := hn b hj.1; have := (h3 l b hl).2; omega
    · split at hl
      · have := hn b hl.1; have := (h3 j b hj).2; omega
      · exact h2 j l b hjl hj hl
  · intro j b hj
    split at hj
    · have := h4.size; have := hn b hj.1; exact ⟨by omega, hj.2⟩
    · exact ⟨(h3 j b hj).1, Nat.lt_of_lt_of_le (h3 j b hj).2 hb.size⟩
theorem Sep.row {α : Type} {d : Kd α} {e base : Nat} {v : Value} {xs : List α} (h : Sep w0 L w) (i : Nat) (hi : L[i]? = some (rowT d e base v xs)) :
    ∃ ok : Nat → Prop, d.R e w base ok v xs ∧ (∀ k, w.heap.size ≤ k → ok k) ∧ ∀ (v1 : Value) (w1 : World) (xs1 : List α), d.R e w1 base ok v1 xs1 → w.grownBy w1 v.ownBlock → Sep w0 (L.set i (rowT d e base v1 xs1)) w1 := by
  obtain ⟨ok, h1, h2, h3⟩ := h.op i _ hi
  have h1' : d.R e w base ok v xs := h1
  exact ⟨fun b => ok b ∨ w.heap.size ≤ b, Kd.R_mono h1' (fun _ hk => .inl hk), fun _ hk => .inr hk, fun v1 w1 xs1 hr hg =>
    h3 w1 (rowT d e base v1 xs1) _ hr (fun _ hb => hb) ((Chg.refl ok w).grown hg (fun k hk => .inl (h1'.1 k hk)))⟩
theorem Sep.reads {α : Type} {d : Kd α} {e base : Nat} {v : Value} {xs : List α} (h : Sep w0 L w) (i : Nat) (hi : L[i]? = some (rowT d e base v xs)) : ∃ A c, v = .slice A xs.length c ∧ xs.length ≤ c ∧ d.C w A xs.length xs := by
  obtain ⟨ok, h1⟩ := h.one i _ hi
  exact Kd.R_reads (show d.R e w base ok v xs from h1)
theorem Sep.empty {α : Type} (d : Kd α) (e base : Nat) (h : Sep w0 L w) : Sep w0 (L ++ [rowT d e base (.slice none 0 0) []]) w :=
  h.new (rowT d e base (.slice none 0 0) []) (ok := fun _ => False) (Kd.R_nil d e w base _) (fun _ h => h.elim) (Below.refl _ _)
end
end Go.Proofs.YtdambnclbpipdaaGreatDoor.Fm
namespace Go.Proofs.YtdambnclbpipdaaGreatDoor.Mb
set_option linter.unusedVariables false
set_option linter.unusedSimpArgs false
open Go.RowKit Go.Maps Go.Proofs.YtdambnclbpipdaaGreatDoorW.PrintWords Go.Proofs.YtdambnclbpipdaaGreatDoor.Hp Go.Proofs.YtdambnclbpipdaaGreatDoor.Fm Go.Proofs.YtdambnclbpipdaaGreatDoor.Ma
abbrev TX : Nat := 93
abbrev TDoc : Nat := 103
abbrev TRun : Nat := 135
abbrev TGr : Nat := 105
abbrev TI : Nat := 3
abbrev TB : Nat := 5
abbrev TSt : Nat := 9
abbrev KI : Kd Int := Kd.int .i64
theorem keyI : Keyed Tryz.prog TI := int_keyed Tryz.underlying3
theorem keyS : Keyed Tryz.prog TSt := string_keyed Tryz.underlying9
theorem keyG : Keyed Tryz.prog TGr := Keyed.of_law (deep_law_laid (P := Tryz.prog) (by kernel_rfl) (m := 3) (by decide) (of_decide_eq_true (by kernel_rfl)) (by kernel_rfl) (by rw [Tryz.underlying105]))
def gk (n id : Int) : Lit := .string (keyBytes [.int .i64 n, .int .i64 id])
theorem gk_key (n id : Int) (hn : (Lit.int .i64 n).wf = true) (hi : (Lit.int .i64 id).wf = true) : keyOf Tryz.prog TGr (.agg #[.int .i64 n, .int .i64 id]) = some (gk n id) := by
  have hk : Tryz.prog.keyType TGr = true := by kernel_rfl
  have hu := Tryz.underlying105
  have hc : Tryz.prog.cellsOf TGr = 2 := by kernel_rfl
  have hi3 := Tryz.underlying3
  have hci : Tryz.prog.cellsOf TI = 1 := by kernel_rfl
  have hf : (Value.agg #[.int .i64 n, .int .i64 id]).formed Tryz.prog TGr = true := by simp [Value.formed, hu, hc]
  obtain ⟨d, hd⟩ : ∃ d, Tryz.prog.types.size = d + 1 := ⟨Tryz.prog.types.size - 1, by kernel_rfl⟩
  have h1 : ∀ m : Int, (Lit.int .i64 m).wf = true → Tryz.prog.keyLits (d + 1) 3 [.int .i64 m] = some [.int .i64 m] := fun m hm => by simp [Program.keyLits, hi3, hm]
  unfold keyOf
  rw [hu]
  simp only [hk, hf, Bool.and_self, if_true, Value.cells, hd]
  unfold Program.keyLits
  rw [hu]
  simp [hc, hci, h1 _ hn, h1 _ hi, gk]
theorem gk_inj {n id n' id' : Int} (hn : (Lit.int .i64 n).wf = true) (hi : (Lit.int .i64 id).wf = true) (hn' : (Lit.int .i64 n').wf = true) (hi' : (Lit.int .i64 id').wf = true) (h : gk n id = gk n' id') : n = n' ∧ id = id' := by
  have h1 := gk_key n id hn hi
  have h2 := gk_key n' id' hn' hi'
  rw [← h] at h2
  have := keyG.inj h1 h2
  simp at this
  exact this
theorem gk_lit {n id : Int} (hn : (Lit.int .i64 n).wf = true) (hi : (Lit.int .i64 id).wf = true) : WideAt.IsKeyLit (gk n id) := keyG.key (gk_key n id hn hi)
def MapV (w : World) (k : TypeId) (b : Nat) (D : DataW Value) : Prop := w.ownsMap Tryz.prog k RV b (size D) D
section
variable {w w' : World} {k : TypeId} {b : Nat} {D : DataW Value}
theorem MapV.of {n : Nat} (h : w.ownsMap Tryz.prog k RV b n D) : MapV w k b D := by
  obtain ⟨es, c, h1, h2, h3, h4⟩ := h
  exact ⟨es, c, h1, h2, Nat.le_of_eq (by rw [h4]; exact (length_read es).symm), h4⟩
theorem MapV.move (h : MapV w k b D) (hb : w'.heap[b]? = w.heap[b]?) : MapV w' k b D := by
  obtain ⟨es, c, h1, h2⟩ := h
  exact ⟨es, c, hb.trans h1, h2⟩
theorem MapV.lt (h : MapV w k b D) : b < w.heap.size := World.ownsMap.lt h
theorem MapV.below (h : MapV w k b D) (hb : Below w.heap.size w w') : MapV w' k b D := h.move (hb.block b h.lt)
theorem MapV.chg {S : Nat → Prop} (h : MapV w k b D) (hc : Chg S w w') (hS : ¬ S b) : MapV w' k b D := h.move (hc.keep b h.lt hS)
theorem MapV.tidy (h : MapV w k b D) (K : Keyed Tryz.prog k) : Tidy D := World.ownsMap.tidy h K
theorem MapV.new (w : World) (k : TypeId) : MapV (w.alloc (.map #[] 0)) k w.heap.size (.map []) := MapV.of (World.ownsMap_made w Tryz.prog k RV)
theorem MapV.has_key (h : MapV w k b D) (K : Keyed Tryz.prog k) {l : Lit} (hl : has D l = true) : ∃ v, keyOf Tryz.prog k v = some l := by
  obtain ⟨es, hD, hko⟩ := World.ownsMap.keysOf h
  subst hD
  rw [has_eq, List.any_eq_true] at hl
  obtain ⟨p, hp, hs⟩ := hl
  obtain ⟨v, hv⟩ := hko p hp
  exact ⟨v, by rw [hv, WideAt.sameKey_eq hs]⟩
theorem MapV.int_key (h : MapV w TI b D) {l : Lit} (hl : has D l = true) : ∃ x : Int, l = ik x ∧ (Lit.int .i64 x).wf = true := by
  obtain ⟨v, hv⟩ := h.has_key keyI hl
  obtain ⟨x, -, h1, h2⟩ := Maps.keyOf_int_inv Tryz.underlying3 hv
  exact ⟨x, h1, h2⟩
theorem MapV.int_wf (h : MapV w TI b D) {x : Int} (hl : has D (ik x) = true) : (Lit.int .i64 x).wf = true := by
  obtain ⟨y, h1, h2⟩ := h.int_key hl
  injection h1 with _ h1
  rw [h1]
  exact h2
end
section
variable {w : World} {k : TypeId} {b : Nat} {D : DataW Value}
theorem MapV.look {t e : TypeId} (h : MapV w k b D) (K : Keyed Tryz.prog k) (ht : Tryz.prog.underlying t = some (.map k e)) {z : Value} (hz : (zeroValue e).run Tryz.prog w = .ok z w) {key : Value} {kl : Lit} (hkey : keyOf Tryz.prog k key = some kl) :
    (Instr.lookup t (.map (some b)) key false).run Tryz.prog w = .ok (vlD z D kl) w := by
  obtain ⟨v, ps, hr, hv⟩ := World.ownsMap.lookup h K ht hz (zd := .held z) (zp := []) rfl hkey
  have : D.atKey kl (.held z) = .held v := by
    have := congrArg (fun o => o.map Prod.fst) hv
    simpa [RV] using this.symm
  unfold vlD
  rw [this]
  exact hr
variable {ops : Array Oper} {rest : List Oper} {o : Oper} {a : Act} {Q : Exit → Act → World → Prop}
theorem wp_look (hg : o.guard = none) (m x : Operand) (t : TypeId) (hop : o.op = Op.lookup t m x false) (k e : TypeId) (K : Keyed Tryz.prog k) (ht : Tryz.prog.underlying t = some (.map k e)) (z : Value) (hz : (zeroValue e).run Tryz.prog w = .ok z w) (b : Nat) (D : DataW Value)
    (hm : a.eval m = .map (some b)) (hown : MapV w k b D) (key : Value) (kl : Lit) (hx : a.eval x = key) (hkey : keyOf Tryz.prog k key = some kl) (hK : wpList Tryz.prog ops Q rest (a.put o.dst (vlD z D kl)) w) : wpList Tryz.prog ops Q (o :: rest) a w := by
  refine wpList_plain hg fun K' hK' => ?_
  have hrun := hown.look K ht hz hkey
  unfold Oper.wp
  simp [execOp, hop, hm, hx, hrun, Result.andThen]
  exact hK' _ _ hK
theorem wp_store (hg : o.guard = none) (m x v : Operand) (t : TypeId) (hop : o.op = Op.mapUpdate t m x v) (k e : TypeId) (K : Keyed Tryz.prog k) (ht : Tryz.prog.underlying t = some (.map k e)) (b : Nat) (D : DataW Value)
    (hm : a.eval m = .map (some b)) (hown : MapV w k b D) (hn : size D < maxLen) (key val : Value) (kl : Lit) (hx : a.eval x = key) (hv : a.eval v = val) (hkey : keyOf Tryz.prog k key = some kl)
    (hK : ∀ w', MapV w' k b (D.put kl (.held val)) → w.grownBy w' (some b) → wpList Tryz.prog ops Q rest (a.put o.dst undef) w') : wpList Tryz.prog ops Q (o :: rest) a w :=
  wpList_mapUpdate_own w hg m x v t hop k e K ht RV b _ D hm hown hn key val kl hx hv hkey (.held val) [] rfl (fun w' h1 h2 => hK w' (MapV.of h1) h2)
theorem wp_delete (hg : o.guard = none) (m x : Operand) (t k : TypeId) (hop : o.op = Op.call { callee := Callee.builtin Builtin.delete, args := #[m, x], argTypes := #[t, k] }) (e : TypeId) (K : Keyed Tryz.prog k) (ht : Tryz.prog.underlying t = some (.map k e))
    (b : Nat) (D : DataW Value) (hm : a.eval m = .map (some b)) (hown : MapV w k b D) (key : Value) (kl : Lit) (hx : a.eval x = key) (hkey : keyOf Tryz.prog k key = some kl)
    (hK : ∀ w', MapV w' k b (D.del kl) → w.grownBy w' (some b) → wpList Tryz.prog ops Q rest (a.put o.dst (.tuple #[])) w') : wpList Tryz.prog ops Q (o :: rest) a w :=
  wpList_delete_own w hg m x t k hop e K ht RV b _ D hm hown key kl hx hkey (fun w' h1 h2 => hK w' (MapV.of h1) h2.grown)
theorem wp_len (hg : o.guard = none) (m : Operand) (t : TypeId) (hop : o.op = Op.call { callee := Callee.builtin Builtin.len, args := #[m], argTypes := #[t] }) (k e : TypeId) (ht : Tryz.prog.underlying t = some (.map k e)) (b : Nat) (D : DataW Value)
    (hm : a.eval m = .map (some b)) (hown : MapV w k b D) (hK : wpList Tryz.prog ops Q rest (a.put o.dst (.int .i64 (size D))) w) : wpList Tryz.prog ops Q (o :: rest) a w :=
  wpList_len_own w hg m t hop k e ht RV b _ D hm hown hK
end
def Rng (w : World) (k : TypeId) (b r : Nat) (D : DataW Value) (left : Lit → Bool) (cnt : Nat) : Prop := w.ranges Tryz.prog k RV b r (size D) D left cnt
section
variable {w w' : World} {k : TypeId} {b r : Nat} {D : DataW Value} {left : Lit → Bool} {cnt : Nat}
theorem Rng.map (h : Rng w k b r D left cnt) : MapV w k b D := World.ranges.owns h
theorem Rng.move (h : Rng w k b r D left cnt) (hb : w'.heap[b]? = w.heap[b]?) (hr : w'.heap[r]? = w.heap[r]?) : Rng w' k b r D left cnt := by
  obtain ⟨es, c, s, se, c0, h1, h2, h3, h4, h5, h6⟩ := h
  exact ⟨es, c, s, se, c0, hb.trans h1, h2, h3, h4, hr.trans h5, h6⟩
theorem Rng.left_eq (h : Rng w k b r D left cnt) : w.rangeLeft b r = cnt := World.ranges.left_eq h
theorem rng_less {left' : Lit → Bool} {cnt' : Nat} (h' : Rng w' k b r D left' cnt') (h : Rng w k b r D left cnt) (hl : cnt' < cnt) : w'.rangeLeft b r < w.rangeLeft b r := by rw [h'.left_eq, h.left_eq]; exact hl
theorem Rng.iter (h : Rng w k b r D left cnt) : ∃ s se c0, w.heap[r]? = some (.mapIter (some b) s se c0) := by
  obtain ⟨es, c, s, se, c0, h1, h2, h3, h4, h5, h6⟩ := h
  exact ⟨s, se, c0, h5⟩
theorem Rng.ne_map (h : Rng w k b r D left cnt) {k2 : TypeId} {b2 : Nat} {D2 : DataW Value} (hm : MapV w k2 b2 D2) : b2 ≠ r := by
  rintro rfl
  obtain ⟨s, se, c0, h1⟩ := h.iter
  obtain ⟨es, c, h2, _⟩ := hm
  rw [h1] at h2
  cases h2
theorem Rng.ne_blk (h : Rng w k b r D left cnt) {g : Nat} {cs : Array Value} {t : TypeId} {fr : Nat × Nat} (hm : w.heap[g]? = some (.cells cs t fr)) : g ≠ r := by
  rintro rfl
  obtain ⟨s, se, c0, h1⟩ := h.iter
  rw [h1] at hm
  cases hm
theorem Rng.lt (h : Rng w k b r D left cnt) : b < w.heap.size ∧ r < w.heap.size := by
  obtain ⟨es, c, s, se, c0, h1, h2, h3, h4, h5, h6⟩ := h
  exact ⟨blk_lt h1, blk_lt h5⟩
theorem Rng.below (h : Rng w k b r D left cnt) (hb : Below w.heap.size w w') : Rng w' k b r D left cnt := h.move (hb.block b h.lt.1) (hb.block r h.lt.2)
variable {ops : Array Oper} {rest : List Oper} {o : Oper} {a : Act} {Q : Exit → Act → World → Prop}
theorem wp_range (hg : o.guard = none) (m : Operand) (t : TypeId) (hop : o.op = Op.range t m) (k e : TypeId) (K : Keyed Tryz.prog k) (ht : Tryz.prog.underlying t = some (.map k e)) (b : Nat) (D : DataW Value)
    (hm : a.eval m = .map (some b)) (hown : MapV w k b D)
    (hK : ∀ w', Rng w' k b w.heap.size D (has D) (size D) → w.grownBy w' none → wpList Tryz.prog ops Q rest (a.put o.dst (.pointer (some ⟨w.heap.size, 0, none⟩))) w') : wpList Tryz.prog ops Q (o :: rest) a w :=
  wpList_range_own w hg m t hop k e K ht RV b _ D hm hown (fun w' h1 h2 _ => hK w' h1 h2)
theorem wp_next {α : Type} (hg : o.guard = none) (it : Operand) (hop : o.op = Op.next it false) (k : TypeId) (K : Keyed Tryz.prog k) (mkK : α → Value) (invK : ∀ key kl, keyOf Tryz.prog k key = some kl → ∃ x, key = mkK x) (z : Value) (b r : Nat) (D : DataW Value) (left : Lit → Bool) (cnt : Nat)
    (hit : a.eval it = .pointer (some ⟨r, 0, none⟩)) (h : Rng w k b r D left cnt)
    (hDone : (∀ kl, left kl = false) → wpList Tryz.prog ops Q rest (a.put o.dst (.tuple #[.bool false])) w)
    (hMore : ∀ (x : α) (kl : Lit) (w' : World) (cnt' : Nat), keyOf Tryz.prog k (mkK x) = some kl → left kl = true → has D kl = true → Rng w' k b r D (fun z => left z && !z.sameKey kl) cnt' → cnt' < cnt →
      w.grownBy w' (some r) → (Instr.entry (.pointer (some ⟨r, 0, none⟩))).run Tryz.prog w' = .ok (.tuple #[mkK x, vlD z D kl]) w' → wpList Tryz.prog ops Q rest (a.put o.dst (.tuple #[.bool true, mkK x, vlD z D kl])) w') :
    wpList Tryz.prog ops Q (o :: rest) a w := by
  refine wpList_next_ranges w hg it hop k K RV mkK (fun v : Value => v) invK (fun v _ _ => ⟨v, rfl⟩) b r _ D left cnt hit h (fun _ hl => hDone hl) ?_
  intro x c kl y w' cnt' hkey hlk hv hat hrg hlt hgr _ hen
  have hy : y.1 = .held c := by
    have := congrArg (fun o => o.map Prod.fst) hv
    simpa [RV] using this.symm
  have hvl : vlD z D kl = c := by unfold vlD; rw [hat, hy]
  have hh : has D kl = true := has_true_of_atKey hat
  have := hMore x kl w' cnt' hkey hlk hh hrg hlt hgr (by rw [hvl]; exact hen)
  rw [hvl] at this
  exact this
end
end Go.Proofs.YtdambnclbpipdaaGreatDoor.Mb
namespace Go.Proofs.YtdambnclbpipdaaGreatDoor.X
open Go.RowKit Go.Proofs.YtdambnclbpipdaaGreatDoorW.PrintWords Go.Proofs.YtdambnclbpipdaaGreatDoorW.PrintLast Go.Proofs.YtdambnclbpipdaaGreatDoorW.PrintMore
attribute [local go_sem] max2_int min2_int max_two min_two max_three min_three max_four min_four   
set_option linter.unusedVariables false
set_option linter.unusedSimpArgs false
def errW : Option Int → Value
  | none => .nilIface
  | some c => .iface 0 (.int .i64 c)
theorem errW_none : errW none = .nilIface := rfl
theorem errW_some (c : Int) : errW (some c) = .iface 0 (.int .i64 c) := rfl
theorem info5 : (Tryz.prog.info? 5).map (fun i => (i.zero, i.size, i.bytes)) = some (some (.int .u8 0), 1, 1) := by kernel_rfl
theorem info21 : (Tryz.prog.info? 21).map (fun i => (i.zero, i.size, i.bytes)) = some (some (.int .i32 0), 1, 4) := by kernel_rfl
theorem info154 : (Tryz.prog.info? 154).map (fun i => (i.zero, i.size, i.bytes)) = some (some (.agg #[(.string ⟨#[]⟩), (.int .i64 0), (.int .i64 0)]), 3, 32) := by kernel_rfl
structure S225 where
  f0 : Int
  f1 : Int
def z225 : S225 := ⟨(0 : Int), (0 : Int)⟩
def k225 : Kd S225 := Kd.iso (Kd.pair (Kd.int .i32) (Kd.int .i32)) (fun x : S225 => (x.f0, x.f1))
theorem k225_open {w : World} {x : S225} {cs : List Value} (h : k225.K w x cs) : cs = [.int .i32 x.f0, .int .i32 x.f1] := by
  obtain ⟨_, _, rfl, rfl, rfl⟩ := h
  exact rfl
theorem k225_mkM (w : World) (base : Nat) (ok : Nat → Prop) (x : S225)  : k225.M w base ok x [.int .i32 x.f0, .int .i32 x.f1] := ⟨[.int .i32 x.f0], [.int .i32 x.f1], rfl, rfl, rfl⟩
def rd_T225 (xs : List S225) (i : Int) : S225 := xs.getD i.toNat z225
theorem at_T225 {w : World} {A : Option Addr} {n : Nat} {xs : List S225} (h : Kd.C k225 w A n xs) (i : Int) (h0 : 0 ≤ i) (h1 : i < n) : ∃ ad , A = some ad ∧ w.cell? (ad.add (i.toNat * 2)) = some (.int .i32 (rd_T225 xs i).f0) ∧ w.cell? ⟨(ad.add (i.toNat * 2)).block, (ad.add (i.toNat * 2)).off + 1, none⟩ = some (.int .i32 (rd_T225 xs i).f1) := by
  obtain ⟨ad, c, e, _, hK, hc0⟩ := Kd.C_get h z225 i h0 h1
  have hc : ∀ j u, c[j]? = some u → w.cell? (ad.add (i.toNat * 2 + j)) = some u := hc0
  obtain rfl := k225_open hK
  exact ⟨ad, e, hc 0 _ rfl, by rw [← add_field _ _ 1 (by omega)]; exact hc 1 _ rfl⟩
structure S202 where
  f0 : Int
  f1 : Int
  f2 : Int
def z202 : S202 := ⟨(0 : Int), (0 : Int), (0 : Int)⟩
def k202 : Kd S202 := Kd.iso (Kd.pair (Kd.int .i32) (Kd.pair (Kd.int .i64) (Kd.int .i64))) (fun x : S202 => (x.f0, x.f1, x.f2))
theorem k202_open {w : World} {x : S202} {cs : List Value} (h : k202.K w x cs) : cs = [.int .i32 x.f0, .int .i64 x.f1, .int .i64 x.f2] := by
  obtain ⟨_, _, rfl, rfl, ⟨_, _, rfl, rfl, rfl⟩⟩ := h
  exact rfl
theorem k202_mkM (w : World) (base : Nat) (ok : Nat → Prop) (x : S202)  : k202.M w base ok x [.int .i32 x.f0, .int .i64 x.f1, .int .i64 x.f2] := ⟨[.int .i32 x.f0], [.int .i64 x.f1, .int .i64 x.f2], rfl, rfl, ⟨[.int .i64 x.f1], [.int .i64 x.f2], rfl, rfl, rfl⟩⟩
def rd_T202 (xs : List S202) (i : Int) : S202 := xs.getD i.toNat z202
theorem at_T202 {w : World} {A : Option Addr} {n : Nat} {xs : List S202} (h : Kd.C k202 w A n xs) (i : Int) (h0 : 0 ≤ i) (h1 : i < n) : ∃ ad , A = some ad ∧ w.cell? (ad.add (i.toNat * 3)) = some (.int .i32 (rd_T202 xs i).f0) ∧ w.cell? ⟨(ad.add (i.toNat * 3)).block, (ad.add (i.toNat * 3)).off + 1, none⟩ = some (.int .i64 (rd_T202 xs i).f1) ∧ w.cell? ⟨(ad.add (i.toNat * 3)).block, (ad.add (i.toNat * 3)).off + 2, none⟩ = some (.int .i64 (rd_T202 xs i).f2) := by
  obtain ⟨ad, c, e, _, hK, hc0⟩ := Kd.C_get h z202 i h0 h1
  have hc : ∀ j u, c[j]? = some u → w.cell? (ad.add (i.toNat * 3 + j)) = some u := hc0
  obtain rfl := k202_open hK
  exact ⟨ad, e, hc 0 _ rfl, by rw [← add_field _ _ 1 (by omega)]; exact hc 1 _ rfl, by rw [← add_field _ _ 2 (by omega)]; exact hc 2 _ rfl⟩
structure S154 where
  f0 : ByteArray
  f1 : Int
  f2 : Int
def z154 : S154 := ⟨(⟨#[]⟩ : ByteArray), (0 : Int), (0 : Int)⟩
def k154 : Kd S154 := Kd.iso (Kd.pair Kd.string (Kd.pair (Kd.int .i64) (Kd.int .i64))) (fun x : S154 => (x.f0, x.f1, x.f2))
theorem k154_open {w : World} {x : S154} {cs : List Value} (h : k154.K w x cs) : cs = [.string x.f0, .int .i64 x.f1, .int .i64 x.f2] := by
  obtain ⟨_, _, rfl, rfl, ⟨_, _, rfl, rfl, rfl⟩⟩ := h
  exact rfl
theorem k154_mkM (w : World) (base : Nat) (ok : Nat → Prop) (x : S154)  : k154.M w base ok x [.string x.f0, .int .i64 x.f1, .int .i64 x.f2] := ⟨[.string x.f0], [.int .i64 x.f1, .int .i64 x.f2], rfl, rfl, ⟨[.int .i64 x.f1], [.int .i64 x.f2], rfl, rfl, rfl⟩⟩
def rd_T154 (xs : List S154) (i : Int) : S154 := xs.getD i.toNat z154
theorem at_T154 {w : World} {A : Option Addr} {n : Nat} {xs : List S154} (h : Kd.C k154 w A n xs) (i : Int) (h0 : 0 ≤ i) (h1 : i < n) : ∃ ad , A = some ad ∧ w.cell? (ad.add (i.toNat * 3)) = some (.string (rd_T154 xs i).f0) ∧ w.cell? ⟨(ad.add (i.toNat * 3)).block, (ad.add (i.toNat * 3)).off + 1, none⟩ = some (.int .i64 (rd_T154 xs i).f1) ∧ w.cell? ⟨(ad.add (i.toNat * 3)).block, (ad.add (i.toNat * 3)).off + 2, none⟩ = some (.int .i64 (rd_T154 xs i).f2) := by
  obtain ⟨ad, c, e, _, hK, hc0⟩ := Kd.C_get h z154 i h0 h1
  have hc : ∀ j u, c[j]? = some u → w.cell? (ad.add (i.toNat * 3 + j)) = some u := hc0
  obtain rfl := k154_open hK
  exact ⟨ad, e, hc 0 _ rfl, by rw [← add_field _ _ 1 (by omega)]; exact hc 1 _ rfl, by rw [← add_field _ _ 2 (by omega)]; exact hc 2 _ rfl⟩
structure S45 where
  f0 : Int
  f1 : Int
  f2 : Int
  f3 : Int
def z45 : S45 := ⟨(0 : Int), (0 : Int), (0 : Int), (0 : Int)⟩
def k45 : Kd S45 := Kd.iso (Kd.pair (Kd.int .i64) (Kd.pair (Kd.int .i64) (Kd.pair (Kd.int .i64) (Kd.int .i64)))) (fun x : S45 => (x.f0, x.f1, x.f2, x.f3))
theorem k45_open {w : World} {x : S45} {cs : List Value} (h : k45.K w x cs) : cs = [.int .i64 x.f0, .int .i64 x.f1, .int .i64 x.f2, .int .i64 x.f3] := by
  obtain ⟨_, _, rfl, rfl, ⟨_, _, rfl, rfl, ⟨_, _, rfl, rfl, rfl⟩⟩⟩ := h
  exact rfl
theorem k45_mkM (w : World) (base : Nat) (ok : Nat → Prop) (x : S45)  : k45.M w base ok x [.int .i64 x.f0, .int .i64 x.f1, .int .i64 x.f2, .int .i64 x.f3] := ⟨[.int .i64 x.f0], [.int .i64 x.f1, .int .i64 x.f2, .int .i64 x.f3], rfl, rfl, ⟨[.int .i64 x.f1], [.int .i64 x.f2, .int .i64 x.f3], rfl, rfl, ⟨[.int .i64 x.f2], [.int .i64 x.f3], rfl, rfl, rfl⟩⟩⟩
structure S47 where
  f0 : ByteArray
  f1 : S45
def z47 : S47 := ⟨(⟨#[]⟩ : ByteArray), z45⟩
def k47 : Kd S47 := Kd.iso (Kd.pair Kd.string k45) (fun x : S47 => (x.f0, x.f1))
theorem k47_open {w : World} {x : S47} {cs : List Value} (h : k47.K w x cs) : cs = [.string x.f0, .int .i64 x.f1.f0, .int .i64 x.f1.f1, .int .i64 x.f1.f2, .int .i64 x.f1.f3] := by
  obtain ⟨_, _, rfl, rfl, s1⟩ := h
  obtain rfl := k45_open s1
  exact rfl
theorem k47_mkM (w : World) (base : Nat) (ok : Nat → Prop) (x : S47)  : k47.M w base ok x [.string x.f0, .int .i64 x.f1.f0, .int .i64 x.f1.f1, .int .i64 x.f1.f2, .int .i64 x.f1.f3] := ⟨[.string x.f0], [.int .i64 x.f1.f0, .int .i64 x.f1.f1, .int .i64 x.f1.f2, .int .i64 x.f1.f3], rfl, rfl, (k45_mkM w base ok x.f1 )⟩
def rd_T47 (xs : List S47) (i : Int) : S47 := xs.getD i.toNat z47
theorem at_T47 {w : World} {A : Option Addr} {n : Nat} {xs : List S47} (h : Kd.C k47 w A n xs) (i : Int) (h0 : 0 ≤ i) (h1 : i < n) : ∃ ad , A = some ad ∧ w.cell? (ad.add (i.toNat * 5)) = some (.string (rd_T47 xs i).f0) ∧ w.cell? ⟨(ad.add (i.toNat * 5)).block, (ad.add (i.toNat * 5)).off + 1, none⟩ = some (.int .i64 (rd_T47 xs i).f1.f0) ∧ w.cell? ⟨(ad.add (i.toNat * 5)).block, (ad.add (i.toNat * 5)).off + 2, none⟩ = some (.int .i64 (rd_T47 xs i).f1.f1) ∧ w.cell? ⟨(ad.add (i.toNat * 5)).block, (ad.add (i.toNat * 5)).off + 3, none⟩ = some (.int .i64 (rd_T47 xs i).f1.f2) ∧ w.cell? ⟨(ad.add (i.toNat * 5)).block, (ad.add (i.toNat * 5)).off + 4, none⟩ = some (.int .i64 (rd_T47 xs i).f1.f3) := by
  obtain ⟨ad, c, e, _, hK, hc0⟩ := Kd.C_get h z47 i h0 h1
  have hc : ∀ j u, c[j]? = some u → w.cell? (ad.add (i.toNat * 5 + j)) = some u := hc0
  obtain rfl := k47_open hK
  exact ⟨ad, e, hc 0 _ rfl, by rw [← add_field _ _ 1 (by omega)]; exact hc 1 _ rfl, by rw [← add_field _ _ 2 (by omega)]; exact hc 2 _ rfl, by rw [← add_field _ _ 3 (by omega)]; exact hc 3 _ rfl, by rw [← add_field _ _ 4 (by omega)]; exact hc 4 _ rfl⟩
structure S43 where
  f0 : Int
  f1 : (List Int)
def z43 : S43 := ⟨(0 : Int), ([] : List Int)⟩
def k43 : Kd S43 := Kd.iso (Kd.pair (Kd.int .i64) (Kd.slice 3 (Kd.int .i64))) (fun x : S43 => (x.f0, x.f1))
theorem k43_open {w : World} {x : S43} {cs : List Value} (h : k43.K w x cs) : ∃ A1 c1, cs = [.int .i64 x.f0, .slice A1 x.f1.length c1] ∧ x.f1.length ≤ c1 ∧ (Kd.int .i64).C w A1 x.f1.length x.f1 := by
  obtain ⟨_, _, rfl, rfl, ⟨A1, c1, rfl, l1, g1⟩⟩ := h
  exact ⟨A1, c1, rfl, l1, g1⟩
theorem k43_mkM (w : World) (base : Nat) (ok : Nat → Prop) (x : S43) {v1 : Value} (g1 : (Kd.int .i64).R 3 w base ok v1 x.f1) : k43.M w base ok x [.int .i64 x.f0, v1] := ⟨[.int .i64 x.f0], [v1], rfl, rfl, ⟨v1, rfl, g1⟩⟩
def rd_T43 (xs : List S43) (i : Int) : S43 := xs.getD i.toNat z43
theorem at_T43 {w : World} {A : Option Addr} {n : Nat} {xs : List S43} (h : Kd.C k43 w A n xs) (i : Int) (h0 : 0 ≤ i) (h1 : i < n) : ∃ ad A1 c1, A = some ad ∧ w.cell? (ad.add (i.toNat * 2)) = some (.int .i64 (rd_T43 xs i).f0) ∧ w.cell? ⟨(ad.add (i.toNat * 2)).block, (ad.add (i.toNat * 2)).off + 1, none⟩ = some (.slice A1 (rd_T43 xs i).f1.length c1) ∧ (rd_T43 xs i).f1.length ≤ c1 ∧ (Kd.int .i64).C w A1 (rd_T43 xs i).f1.length (rd_T43 xs i).f1 := by
  obtain ⟨ad, c, e, _, hK, hc0⟩ := Kd.C_get h z43 i h0 h1
  have hc : ∀ j u, c[j]? = some u → w.cell? (ad.add (i.toNat * 2 + j)) = some u := hc0
  obtain ⟨A1, c1, rfl, l1, g1⟩ := k43_open hK
  exact ⟨ad, A1, c1, e, hc 0 _ rfl, by rw [← add_field _ _ 1 (by omega)]; exact hc 1 _ rfl, l1, g1⟩
end Go.Proofs.YtdambnclbpipdaaGreatDoor.X
namespace Go.Proofs.YtdambnclbpipdaaGreatDoor.X
open Go.RowKit Go.Proofs.YtdambnclbpipdaaGreatDoorW.PrintWords Go.Proofs.YtdambnclbpipdaaGreatDoorW.PrintLast Go.Proofs.YtdambnclbpipdaaGreatDoorW.PrintMore
attribute [local go_sem] max2_int min2_int max_two min_two max_three min_three max_four min_four   
set_option linter.unusedVariables false
set_option linter.unusedSimpArgs false
def utf_lead.j0 : Nat → Int → Int → Int → Bool → Option (Int × Int × Int × Int)
 | 0, _, _, _, _ => none
 | k + 1, x0, x4, x5, x13 => if x13 = true then (some (0, 0, x4, x5)) else (if x0 < 224 then (some (2, wrap32 (Go.bits .and .u8 x0 31), x4, x5)) else (if x0 < 240 then (if x0 = 224 then (some (3, wrap32 (Go.bits .and .u8 x0 15), 160, x5)) else (if x0 = 237 then (some (3, wrap32 (Go.bits .and .u8 x0 15), x4, 159)) else (some (3, wrap32 (Go.bits .and .u8 x0 15), x4, x5)))) else (if x0 = 240 then (some (4, wrap32 (Go.bits .and .u8 x0 7), 144, x5)) else (if x0 = 244 then (some (4, wrap32 (Go.bits .and .u8 x0 7), x4, 143)) else (some (4, wrap32 (Go.bits .and .u8 x0 7), x4, x5))))))
def utf_lead.f (k : Nat) (a0 : Int) : Option (Int × Int × Int × Int) := if a0 < 128 then (some (1, wrap32 (a0), 128, 191)) else (if a0 < 194 then (utf_lead.j0 k a0 128 191 true) else (utf_lead.j0 k a0 128 191 (decide (a0 > 244))))
theorem utf_lead.mono_l : ∀ k, (∀ y0 y1 y2 y3, LeO (utf_lead.j0 k y0 y1 y2 y3) (utf_lead.j0 (k + 1) y0 y1 y2 y3))
 | 0 => fun _ _ _ _ r h => by simp [utf_lead.j0] at h
 | k + 1 => by
  have ih0 := utf_lead.mono_l k
  ·intro y0 y1 y2 y3
   unfold utf_lead.j0
   repeat' first
   | (with_reducible exact ih0 _ _ _ _)
   | (with_reducible exact LeO.refl _)
   | (with_reducible exact LeO.none _)
   | (with_reducible refine LeO.ite ?_ ?_)
   | (with_reducible refine LeO.bind ?_ (fun _ => ?_))
   | exact ih0 _ _ _ _
   | exact LeO.none _
   | refine LeO.ite ?_ ?_
   | refine LeO.bind ?_ (fun _ => ?_)
theorem utf_lead.mono : ∀ a0 k, LeO (utf_lead.f k a0) (utf_lead.f (k + 1) a0) := by
 intro a0 k
 have ih0 := utf_lead.mono_l k
 unfold utf_lead.f
 repeat' first
   | (with_reducible exact ih0 _ _ _ _)
   | (with_reducible exact LeO.refl _)
   | (with_reducible exact LeO.none _)
   | (with_reducible refine LeO.ite ?_ ?_)
   | (with_reducible refine LeO.bind ?_ (fun _ => ?_))
   | exact ih0 _ _ _ _
   | exact LeO.none _
   | refine LeO.ite ?_ ?_
   | refine LeO.bind ?_ (fun _ => ?_)
set_option maxHeartbeats 8000000 in
set_option maxRecDepth 100000 in
theorem utf_lead.calls (k : Nat) (a0 : Int) (r1 : Int) (r2 : Int) (r3 : Int) (r4 : Int) (w : World) (h : utf_lead.f k a0 = some (r1, r2, r3, r4)) :
  Calls Tryz.prog 173 #[.int .u8 a0] w fun e w' => e = .returned (.tuple #[.int .i64 r1, .int .i32 r2, .int .u8 r3, .int .u8 r4]) ∧ Drawn0 w w' := by
 have H : (if a0 < 128 then (some (1, wrap32 (a0), 128, 191)) else (if a0 < 194 then (utf_lead.j0 k a0 128 191 true) else (utf_lead.j0 k a0 128 191 (decide (a0 > 244))))) = some (r1, r2, r3, r4) := h
 clear h
 by_cases c2 : a0 < 128
 ·rw [if_pos c2] at H
  have c2b0 : decide (a0 < 128) = true := decide_eq_true c2
  clear c2
  simp only [Option.some.injEq, Prod.mk.injEq] at H
  obtain ⟨rfl, rfl, rfl, rfl⟩ := H
  go_enter Tryz.func173, Tryz.ntmps173
  go_wp2
  refine bodyPost_ret (results_list (rs := [.tmp 2, .tmp 3, .tmp 4, .tmp 5]) rfl (by simp) (.tmp (.tmp (.tmp (.tmp .nil))))) rfl ?_
  exact ⟨by first | rfl | (simp; done) | (simp [*]; done), by repeat (first | exact Drawn0.refl _ | apply Drawn0.step)⟩
 ·rw [if_neg c2] at H
  have c2b0 : decide (a0 < 128) = false := decide_eq_false c2
  clear c2
  have HC3 := Aside0.mk H
  clear H
  go_enter Tryz.func173, Tryz.ntmps173
  go_upto_region 4 with (fail)
  go_cut [13] (fun v13 wc => ∃ (kq : Nat) (x13_2 : Bool), v13 = .bool x13_2 ∧ Aside0 (utf_lead.j0 kq a0 128 191 x13_2 = some (r1, r2, r3, r4)) ∧ Aside0 (kq ≤ k) ∧ Drawn0 w wc)
  case first =>
   have H := HC3.out
   clear HC3
   by_cases c4 : a0 < 194
   ·rw [if_pos c4] at H
    have c4b0 : decide (a0 < 194) = true := decide_eq_true c4
    clear c4
    (first | rw [c4b0] | (simp only [i64_w, i32_w]; rw [c4b0]) | skip)
    have H' := Aside0.mk H
    clear H
    go_wp2
    go_meet
    case rel => exact ⟨_, (true), (by first | rfl | (simp; done) | (simp [*]; done)), H', ⟨by first | omega | exact Nat.le_refl _⟩, by repeat (first | exact Drawn0.refl _ | apply Drawn0.step)⟩
   ·rw [if_neg c4] at H
    have c4b0 : decide (a0 < 194) = false := decide_eq_false c4
    clear c4
    (first | rw [c4b0] | (simp only [i64_w, i32_w]; rw [c4b0]) | skip)
    have H' := Aside0.mk H
    clear H
    go_wp2
    go_meet
    case rel => exact ⟨_, (decide (a0 > 244)), (by first | rfl | (simp; done) | (simp [*]; done)), H', ⟨by first | omega | exact Nat.le_refl _⟩, by repeat (first | exact Drawn0.refl _ | apply Drawn0.step)⟩
  case rest =>
   clear HC3
   try clear c1
   try clear c2
   try clear c2b0
   try clear p2
   try clear p3
   try clear c4
   try clear c4b0
   obtain ⟨kq, x13_2, rfl, HA, HJ2, ⟨mc2, rfl⟩⟩ := hcut
   cases kq with
   | zero => exact absurd HA.out (by simp [utf_lead.j0])
   | succ kj2 =>
    have H := HA.out
    clear HA
    simp only [utf_lead.j0] at H
    by_cases c5 : x13_2 = true
    ·subst c5
     have H1 : (some (0, 0, 128, 191)) = some (r1, r2, r3, r4) := by rw [if_pos rfl] at H; exact H
     clear H
     have H := H1
     clear H1
     simp only [Option.some.injEq, Prod.mk.injEq] at H
     obtain ⟨rfl, rfl, rfl, rfl⟩ := H
     go_wp2
     refine bodyPost_ret (results_list (rs := [.tmp 2, .tmp 3, .tmp 4, .tmp 5]) rfl (by simp) (.tmp (.tmp (.tmp (.tmp .nil))))) rfl ?_
     exact ⟨by first | rfl | (simp; done) | (simp [*]; done), by repeat (first | exact Drawn0.refl _ | apply Drawn0.step)⟩
    ·replace c5 := Bool.eq_false_iff.mpr c5
     subst c5
     have H1 : (if a0 < 224 then (some (2, wrap32 (Go.bits .and .u8 a0 31), 128, 191)) else (if a0 < 240 then (if a0 = 224 then (some (3, wrap32 (Go.bits .and .u8 a0 15), 160, 191)) else (if a0 = 237 then (some (3, wrap32 (Go.bits .and .u8 a0 15), 128, 159)) else (some (3, wrap32 (Go.bits .and .u8 a0 15), 128, 191)))) else (if a0 = 240 then (some (4, wrap32 (Go.bits .and .u8 a0 7), 144, 191)) else (if a0 = 244 then (some (4, wrap32 (Go.bits .and .u8 a0 7), 128, 143)) else (some (4, wrap32 (Go.bits .and .u8 a0 7), 128, 191)))))) = some (r1, r2, r3, r4) := by rw [if_neg (show ¬ (false = true) by decide)] at H; exact H
     clear H
     have H := H1
     clear H1
     by_cases c6 : a0 < 224
     ·rw [if_pos c6] at H
      have c6b0 : decide (a0 < 224) = true := decide_eq_true c6
      clear c6
      simp only [Option.some.injEq, Prod.mk.injEq] at H
      obtain ⟨rfl, rfl, rfl, rfl⟩ := H
      go_wp2
      refine bodyPost_ret (results_list (rs := [.tmp 2, .tmp 3, .tmp 4, .tmp 5]) rfl (by simp) (.tmp (.tmp (.tmp (.tmp .nil))))) rfl ?_
      exact ⟨by first | rfl | (simp; done) | (simp [*]; done), by repeat (first | exact Drawn0.refl _ | apply Drawn0.step)⟩
     ·rw [if_neg c6] at H
      have c6b0 : decide (a0 < 224) = false := decide_eq_false c6
      clear c6
      by_cases c7 : a0 < 240
      ·rw [if_pos c7] at H
       have c7b0 : decide (a0 < 240) = true := decide_eq_true c7
       clear c7
       by_cases c8 : a0 = 224
       ·rw [if_pos c8] at H
        have c8b0 : (a0 == 224) = true := beq_iff_eq.mpr c8
        have c8b1 : (a0 != 224) = false := bne_eq_false_iff_eq.mpr c8
        clear c8
        simp only [Option.some.injEq, Prod.mk.injEq] at H
        obtain ⟨rfl, rfl, rfl, rfl⟩ := H
        go_wp2
        refine bodyPost_ret (results_list (rs := [.tmp 2, .tmp 3, .tmp 4, .tmp 5]) rfl (by simp) (.tmp (.tmp (.tmp (.tmp .nil))))) rfl ?_
        exact ⟨by first | rfl | (simp; done) | (simp [*]; done), by repeat (first | exact Drawn0.refl _ | apply Drawn0.step)⟩
       ·rw [if_neg c8] at H
        have c8b0 : (a0 == 224) = false := beq_eq_false_iff_ne.mpr c8
        have c8b1 : (a0 != 224) = true := bne_iff_ne.mpr c8
        by_cases c9 : a0 = 237
        ·rw [if_pos c9] at H
         have c9b0 : (a0 == 237) = true := beq_iff_eq.mpr c9
         have c9b1 : (a0 != 237) = false := bne_eq_false_iff_eq.mpr c9
         clear c9
         simp only [Option.some.injEq, Prod.mk.injEq] at H
         obtain ⟨rfl, rfl, rfl, rfl⟩ := H
         go_wp2
         refine bodyPost_ret (results_list (rs := [.tmp 2, .tmp 3, .tmp 4, .tmp 5]) rfl (by simp) (.tmp (.tmp (.tmp (.tmp .nil))))) rfl ?_
         exact ⟨by first | rfl | (simp; done) | (simp [*]; done), by repeat (first | exact Drawn0.refl _ | apply Drawn0.step)⟩
        ·rw [if_neg c9] at H
         have c9b0 : (a0 == 237) = false := beq_eq_false_iff_ne.mpr c9
         have c9b1 : (a0 != 237) = true := bne_iff_ne.mpr c9
         simp only [Option.some.injEq, Prod.mk.injEq] at H
         obtain ⟨rfl, rfl, rfl, rfl⟩ := H
         go_wp2
         refine bodyPost_ret (results_list (rs := [.tmp 2, .tmp 3, .tmp 4, .tmp 5]) rfl (by simp) (.tmp (.tmp (.tmp (.tmp .nil))))) rfl ?_
         exact ⟨by first | rfl | (simp; done) | (simp [*]; done), by repeat (first | exact Drawn0.refl _ | apply Drawn0.step)⟩
      ·rw [if_neg c7] at H
       have c7b0 : decide (a0 < 240) = false := decide_eq_false c7
       clear c7
       by_cases c10 : a0 = 240
       ·rw [if_pos c10] at H
        have c10b0 : (a0 == 240) = true := beq_iff_eq.mpr c10
        have c10b1 : (a0 != 240) = false := bne_eq_false_iff_eq.mpr c10
        clear c10
        simp only [Option.some.injEq, Prod.mk.injEq] at H
        obtain ⟨rfl, rfl, rfl, rfl⟩ := H
        go_wp2
        refine bodyPost_ret (results_list (rs := [.tmp 2, .tmp 3, .tmp 4, .tmp 5]) rfl (by simp) (.tmp (.tmp (.tmp (.tmp .nil))))) rfl ?_
        exact ⟨by first | rfl | (simp; done) | (simp [*]; done), by repeat (first | exact Drawn0.refl _ | apply Drawn0.step)⟩
       ·rw [if_neg c10] at H
        have c10b0 : (a0 == 240) = false := beq_eq_false_iff_ne.mpr c10
        have c10b1 : (a0 != 240) = true := bne_iff_ne.mpr c10
        by_cases c11 : a0 = 244
        ·rw [if_pos c11] at H
         have c11b0 : (a0 == 244) = true := beq_iff_eq.mpr c11
         have c11b1 : (a0 != 244) = false := bne_eq_false_iff_eq.mpr c11
         clear c11
         simp only [Option.some.injEq, Prod.mk.injEq] at H
         obtain ⟨rfl, rfl, rfl, rfl⟩ := H
         go_wp2
         refine bodyPost_ret (results_list (rs := [.tmp 2, .tmp 3, .tmp 4, .tmp 5]) rfl (by simp) (.tmp (.tmp (.tmp (.tmp .nil))))) rfl ?_
         exact ⟨by first | rfl | (simp; done) | (simp [*]; done), by repeat (first | exact Drawn0.refl _ | apply Drawn0.step)⟩
        ·rw [if_neg c11] at H
         have c11b0 : (a0 == 244) = false := beq_eq_false_iff_ne.mpr c11
         have c11b1 : (a0 != 244) = true := bne_iff_ne.mpr c11
         simp only [Option.some.injEq, Prod.mk.injEq] at H
         obtain ⟨rfl, rfl, rfl, rfl⟩ := H
         go_wp2
         refine bodyPost_ret (results_list (rs := [.tmp 2, .tmp 3, .tmp 4, .tmp 5]) rfl (by simp) (.tmp (.tmp (.tmp (.tmp .nil))))) rfl ?_
         exact ⟨by first | rfl | (simp; done) | (simp [*]; done), by repeat (first | exact Drawn0.refl _ | apply Drawn0.step)⟩
end Go.Proofs.YtdambnclbpipdaaGreatDoor.X
namespace Go.Proofs.YtdambnclbpipdaaGreatDoor.X
open Go.RowKit Go.Proofs.YtdambnclbpipdaaGreatDoorW.PrintWords Go.Proofs.YtdambnclbpipdaaGreatDoorW.PrintLast Go.Proofs.YtdambnclbpipdaaGreatDoorW.PrintMore
attribute [local go_sem] max2_int min2_int max_two min_two max_three min_three max_four min_four   
set_option linter.unusedVariables false
set_option linter.unusedSimpArgs false
def utf_one.l0 : Nat → List Int → Int → Int → Int → Int → Int → Option (Int × Int × Bool)
 | 0, _, _, _, _, _, _ => none
 | k + 1, x0, x2, x5, x6, x7, x8 => if x8 < x5 then (if x8 = (x0.length : Int) then (some (65533, x8, true)) else (if 0 ≤ x8 then (if x8 < (x0.length : Int) then (if (rd x0 x8) < x6 then (some (65533, x8, false)) else (if (rd x0 x8) > x7 then (some (65533, x8, false)) else (utf_one.l0 k x0 (Go.bits .or .i32 (wrap32 (x2 * 64)) (wrap32 (Go.bits .and .u8 (rd x0 x8) 63))) x5 128 191 (wrap64 (x8 + 1))))) else (none)) else (none))) else (some (x2, x5, false))
def utf_one.f (k : Nat) (l0 : List Int) : Option (Int × Int × Bool) := if 0 < (l0.length : Int) then ((utf_lead.f k (rd l0 0)).bind fun bt122 => (if bt122.1 = 0 then (some (65533, 1, false)) else (utf_one.l0 k l0 bt122.2.1 bt122.1 bt122.2.2.1 bt122.2.2.2 1))) else (none)
theorem utf_one.mono_l : ∀ k, (∀ y0 y1 y2 y3 y4 y5, LeO (utf_one.l0 k y0 y1 y2 y3 y4 y5) (utf_one.l0 (k + 1) y0 y1 y2 y3 y4 y5))
 | 0 => fun _ _ _ _ _ _ r h => by simp [utf_one.l0] at h
 | k + 1 => by
  have ih0 := utf_one.mono_l k
  ·intro y0 y1 y2 y3 y4 y5
   unfold utf_one.l0
   repeat' first
   | (with_reducible exact ih0 _ _ _ _ _ _)
   | (with_reducible exact utf_lead.mono _ _)
   | (with_reducible exact LeO.refl _)
   | (with_reducible exact LeO.none _)
   | (with_reducible refine LeO.ite ?_ ?_)
   | (with_reducible refine LeO.bind ?_ (fun _ => ?_))
   | exact ih0 _ _ _ _ _ _
   | exact utf_lead.mono _ _
   | exact LeO.none _
   | refine LeO.ite ?_ ?_
   | refine LeO.bind ?_ (fun _ => ?_)
theorem utf_one.mono : ∀ a0 k, LeO (utf_one.f k a0) (utf_one.f (k + 1) a0) := by
 intro a0 k
 have ih0 := utf_one.mono_l k
 unfold utf_one.f
 repeat' first
   | (with_reducible exact ih0 _ _ _ _ _ _)
   | (with_reducible exact utf_lead.mono _ _)
   | (with_reducible exact LeO.refl _)
   | (with_reducible exact LeO.none _)
   | (with_reducible refine LeO.ite ?_ ?_)
   | (with_reducible refine LeO.bind ?_ (fun _ => ?_))
   | exact ih0 _ _ _ _ _ _
   | exact utf_lead.mono _ _
   | exact LeO.none _
   | refine LeO.ite ?_ ?_
   | refine LeO.bind ?_ (fun _ => ?_)
set_option maxHeartbeats 8000000 in
set_option maxRecDepth 100000 in
theorem utf_one.calls (k : Nat) (A0 : Option Addr) (c0 : Nat) (l0 : List Int) (r1 : Int) (r2 : Int) (r3 : Bool) (w : World) (hr0 : Kd.C (Kd.int .u8) w A0 l0.length l0) (hc0 : l0.length ≤ c0) (h : utf_one.f k l0 = some (r1, r2, r3)) :
  Calls Tryz.prog 148 #[.slice A0 l0.length c0] w fun e w' => e = .returned (.tuple #[.int .i32 r1, .int .i64 r2, .bool r3]) ∧ Drawn0 w w' := by
 have HR0 := Aside0.mk hr0
 have HC0 := Aside0.mk hc0
 clear hr0 hc0
 have H : (if 0 < (l0.length : Int) then ((utf_lead.f k (rd l0 0)).bind fun bt122 => (if bt122.1 = 0 then (some (65533, 1, false)) else (utf_one.l0 k l0 bt122.2.1 bt122.1 bt122.2.2.1 bt122.2.2.2 1))) else (none)) = some (r1, r2, r3) := h
 clear h
 by_cases c2 : 0 < (l0.length : Int)
 ·rw [if_pos c2] at H
  have c2b0 : decide (0 < (l0.length : Int)) = true := decide_eq_true c2
  have c2b1 : decide (0 < l0.length) = true := decide_eq_true (by omega)
  clear c2
  replace H := Option.bind_eq_some_iff.mp H
  obtain ⟨⟨t122, t123, t124, t125⟩, A30, H⟩ := H
  replace H : (if t122 = 0 then (some (65533, 1, false)) else (utf_one.l0 k l0 t123 t122 t124 t125 1)) = some (r1, r2, r3) := H
  have A3 := Aside0.mk A30
  clear A30
  by_cases c4 : t122 = 0
  ·rw [if_pos c4] at H
   have c4b0 : (t122 == 0) = true := beq_iff_eq.mpr c4
   have c4b1 : (t122 != 0) = false := bne_eq_false_iff_eq.mpr c4
   clear c4
   simp only [Option.some.injEq, Prod.mk.injEq] at H
   obtain ⟨rfl, rfl, rfl⟩ := H
   have p121 : 0 ≤ (0 : Int) := (by omega)
   have q121 : 0 < (l0.length : Int) := of_decide_eq_true (by first | (with_reducible assumption) | assumption)
   obtain ⟨ad121, e121, hx121_0⟩ := Kd.at_int HR0.out 0 p121 q121
   cases e121
   have qi121 : (0 < l0.length) = True := eq_true (by omega)
   (try rw [show ((0 : Int)).toNat = 0 from rfl] at hx121_0)
   (try rw [Addr.add_zero'] at hx121_0)
   replace p121 := eq_true p121
   replace q121 := eq_true q121
   go_enter Tryz.func148, Tryz.ntmps148
   go_wp2_with (first | ((with_reducible refine gate_callee (f := 173) rfl ?_); refine goesL_ (some 13) rfl rfl Tryz.func173 (by kernel_rfl) rfl #[.int .u8 (rd l0 0)] rfl (by (try simp only [List.map_toArray, List.map_cons, List.map_nil]); first | done | rfl | (simp only [List.length_drop, List.length_take]; rfl)) ?_; (with_reducible refine (utf_lead.calls k (rd l0 0) t122 t123 t124 t125 _ A3.out).mono ?_); rintro e w' ⟨rfl, ⟨nd, rfl⟩⟩; refine ⟨_, rfl, ?_⟩))
   go_ret3
   exact ⟨by first | rfl | (simp; done) | (simp [*]; done), by repeat (first | exact Drawn0.refl _ | apply Drawn0.step)⟩
  ·rw [if_neg c4] at H
   have c4b0 : (t122 == 0) = false := beq_eq_false_iff_ne.mpr c4
   have c4b1 : (t122 != 0) = true := bne_iff_ne.mpr c4
   have H' := Aside0.mk H
   clear H
   have p121 : 0 ≤ (0 : Int) := (by omega)
   have q121 : 0 < (l0.length : Int) := of_decide_eq_true (by first | (with_reducible assumption) | assumption)
   obtain ⟨ad121, e121, hx121_0⟩ := Kd.at_int HR0.out 0 p121 q121
   cases e121
   have qi121 : (0 < l0.length) = True := eq_true (by omega)
   (try rw [show ((0 : Int)).toNat = 0 from rfl] at hx121_0)
   (try rw [Addr.add_zero'] at hx121_0)
   replace p121 := eq_true p121
   replace q121 := eq_true q121
   go_enter Tryz.func148, Tryz.ntmps148
   go_wp2_with (first | ((with_reducible refine gate_callee (f := 173) rfl ?_); refine goesL_ (some 13) rfl rfl Tryz.func173 (by kernel_rfl) rfl #[.int .u8 (rd l0 0)] rfl (by (try simp only [List.map_toArray, List.map_cons, List.map_nil]); first | done | rfl | (simp only [List.length_drop, List.length_take]; rfl)) ?_; (with_reducible refine (utf_lead.calls k (rd l0 0) t122 t123 t124 t125 _ A3.out).mono ?_); rintro e w' ⟨rfl, ⟨nd, rfl⟩⟩; refine ⟨_, rfl, ?_⟩))
   go_loopg [2, 6, 7, 8] k (fun kq v2 v6 v7 v8 w' => ∃ (x2_1 : Int) (x6_1 : Int) (x7_1 : Int) (x8_1 : Int), v2 = .int .i32 x2_1 ∧ v6 = .int .u8 x6_1 ∧ v7 = .int .u8 x7_1 ∧ v8 = .int .i64 x8_1 ∧ Aside0 (utf_one.l0 kq l0 x2_1 t122 x6_1 x7_1 x8_1 = some (r1, r2, r3)) ∧ Aside0 (kq ≤ k) ∧ Drawn0 w w')
   case atStart => exact ⟨(t123), (t124), (t125), (1), (by first | rfl | (simp; done) | (simp [*]; done)), (by first | rfl | (simp; done) | (simp [*]; done)), (by first | rfl | (simp; done) | (simp [*]; done)), (by first | rfl | (simp; done) | (simp [*]; done)), H', ⟨Nat.le_refl _⟩, by repeat (first | exact Drawn0.refl _ | apply Drawn0.step)⟩
   case round =>
    clear H'
    try clear c1
    try clear p1
    try clear q1
    try clear hx1
    try clear qi1
    try clear c2
    try clear c2b0
    try clear c2b1
    try clear p2
    try clear c4
    try clear c4b0
    try clear c4b1
    try clear hx121_0
    try clear p121
    try clear q121
    obtain ⟨x2_1, x6_1, x7_1, x8_1, rfl, rfl, rfl, rfl, HA, HK1, ⟨m1, rfl⟩⟩ := hrel
    cases gk with
    | zero => exact absurd HA.out (by simp [utf_one.l0])
    | succ k1 =>
     have H := HA.out
     clear HA
     simp only [utf_one.l0] at H
     by_cases c5 : x8_1 < t122
     ·rw [if_pos c5] at H
      have c5b0 : decide (x8_1 < t122) = true := decide_eq_true c5
      clear c5
      by_cases c6 : x8_1 = (l0.length : Int)
      ·rw [if_pos c6] at H
       have c6b0 : (x8_1 == (l0.length : Int)) = true := beq_iff_eq.mpr c6
       have c6b1 : (x8_1 != (l0.length : Int)) = false := bne_eq_false_iff_eq.mpr c6
       clear c6
       simp only [Option.some.injEq, Prod.mk.injEq] at H
       obtain ⟨rfl, rfl, rfl⟩ := H
       go_wp2
       go_ret3
       exact ⟨by first | rfl | (simp; done) | (simp [*]; done), by repeat (first | exact Drawn0.refl _ | apply Drawn0.step)⟩
      ·rw [if_neg c6] at H
       have c6b0 : (x8_1 == (l0.length : Int)) = false := beq_eq_false_iff_ne.mpr c6
       have c6b1 : (x8_1 != (l0.length : Int)) = true := bne_iff_ne.mpr c6
       by_cases c7 : 0 ≤ x8_1
       ·rw [if_pos c7] at H
        have c7b0 : decide (0 ≤ x8_1) = true := decide_eq_true c7
        clear c7
        by_cases c8 : x8_1 < (l0.length : Int)
        ·rw [if_pos c8] at H
         have c8b0 : decide (x8_1 < (l0.length : Int)) = true := decide_eq_true c8
         clear c8
         by_cases c9 : (rd l0 x8_1) < x6_1
         ·rw [if_pos c9] at H
          have c9b0 : decide ((rd l0 x8_1) < x6_1) = true := decide_eq_true c9
          clear c9
          simp only [Option.some.injEq, Prod.mk.injEq] at H
          obtain ⟨rfl, rfl, rfl⟩ := H
          have p126 : 0 ≤ (x8_1 : Int) := of_decide_eq_true (by first | (with_reducible assumption) | assumption)
          have q126 : x8_1 < (l0.length : Int) := of_decide_eq_true (by first | (with_reducible assumption) | assumption)
          obtain ⟨ad126, e126, hx126_0⟩ := Kd.at_int HR0.out x8_1 p126 q126
          obtain rfl : ad121 = ad126 := (by injection e126)
          replace p126 := eq_true p126
          replace q126 := eq_true q126
          go_wp2
          go_ret3
          exact ⟨by first | rfl | (simp; done) | (simp [*]; done), by repeat (first | exact Drawn0.refl _ | apply Drawn0.step)⟩
         ·rw [if_neg c9] at H
          have c9b0 : decide ((rd l0 x8_1) < x6_1) = false := decide_eq_false c9
          clear c9
          by_cases c10 : (rd l0 x8_1) > x7_1
          ·rw [if_pos c10] at H
           have c10b0 : decide (x7_1 < (rd l0 x8_1)) = true := decide_eq_true c10
           clear c10
           simp only [Option.some.injEq, Prod.mk.injEq] at H
           obtain ⟨rfl, rfl, rfl⟩ := H
           have p126 : 0 ≤ (x8_1 : Int) := of_decide_eq_true (by first | (with_reducible assumption) | assumption)
           have q126 : x8_1 < (l0.length : Int) := of_decide_eq_true (by first | (with_reducible assumption) | assumption)
           obtain ⟨ad126, e126, hx126_0⟩ := Kd.at_int HR0.out x8_1 p126 q126
           obtain rfl : ad121 = ad126 := (by injection e126)
           replace p126 := eq_true p126
           replace q126 := eq_true q126
           have p127 : 0 ≤ (x8_1 : Int) := of_decide_eq_true (by first | (with_reducible assumption) | assumption)
           have q127 : x8_1 < (l0.length : Int) := of_decide_eq_true (by first | (with_reducible assumption) | assumption)
           obtain ⟨ad127, e127, hx127_0⟩ := Kd.at_int HR0.out x8_1 p127 q127
           obtain rfl : ad121 = ad127 := (by injection e127)
           replace p127 := eq_true p127
           replace q127 := eq_true q127
           go_wp2
           go_ret3
           exact ⟨by first | rfl | (simp; done) | (simp [*]; done), by repeat (first | exact Drawn0.refl _ | apply Drawn0.step)⟩
          ·rw [if_neg c10] at H
           have c10b0 : decide (x7_1 < (rd l0 x8_1)) = false := decide_eq_false c10
           clear c10
           have H' := Aside0.mk H
           clear H
           have p126 : 0 ≤ (x8_1 : Int) := of_decide_eq_true (by first | (with_reducible assumption) | assumption)
           have q126 : x8_1 < (l0.length : Int) := of_decide_eq_true (by first | (with_reducible assumption) | assumption)
           obtain ⟨ad126, e126, hx126_0⟩ := Kd.at_int HR0.out x8_1 p126 q126
           obtain rfl : ad121 = ad126 := (by injection e126)
           replace p126 := eq_true p126
           replace q126 := eq_true q126
           have p127 : 0 ≤ (x8_1 : Int) := of_decide_eq_true (by first | (with_reducible assumption) | assumption)
           have q127 : x8_1 < (l0.length : Int) := of_decide_eq_true (by first | (with_reducible assumption) | assumption)
           obtain ⟨ad127, e127, hx127_0⟩ := Kd.at_int HR0.out x8_1 p127 q127
           obtain rfl : ad121 = ad127 := (by injection e127)
           replace p127 := eq_true p127
           replace q127 := eq_true q127
           have p128 : 0 ≤ (x8_1 : Int) := of_decide_eq_true (by first | (with_reducible assumption) | assumption)
           have q128 : x8_1 < (l0.length : Int) := of_decide_eq_true (by first | (with_reducible assumption) | assumption)
           obtain ⟨ad128, e128, hx128_0⟩ := Kd.at_int HR0.out x8_1 p128 q128
           obtain rfl : ad121 = ad128 := (by injection e128)
           replace p128 := eq_true p128
           replace q128 := eq_true q128
           go_wp2
           go_roundg k1
           case measure => have := HK1.out; omega
           case rel => exact ⟨(Go.bits .or .i32 (wrap32 (x2_1 * 64)) (wrap32 (Go.bits .and .u8 (rd l0 x8_1) 63))), (128), (191), (wrap64 (x8_1 + 1)), (by first | rfl | (simp; done) | (simp [*]; done)), (by first | rfl | (simp; done) | (simp [*]; done)), (by first | rfl | (simp; done) | (simp [*]; done)), (by first | rfl | (simp; done) | (simp [*]; done)), H', ⟨by have := HK1.out; omega⟩, by repeat (first | exact Drawn0.refl _ | apply Drawn0.step)⟩
        ·rw [if_neg c8] at H
         exact absurd H (by simp)
       ·rw [if_neg c7] at H
        exact absurd H (by simp)
     ·rw [if_neg c5] at H
      have c5b0 : decide (x8_1 < t122) = false := decide_eq_false c5
      clear c5
      simp only [Option.some.injEq, Prod.mk.injEq] at H
      obtain ⟨rfl, rfl, rfl⟩ := H
      go_wp2
      go_ret3
      exact ⟨by first | rfl | (simp; done) | (simp [*]; done), by repeat (first | exact Drawn0.refl _ | apply Drawn0.step)⟩
 ·rw [if_neg c2] at H
  exact absurd H (by simp)
end Go.Proofs.YtdambnclbpipdaaGreatDoor.X
namespace Go.Proofs.YtdambnclbpipdaaGreatDoor.Ux
set_option linter.unusedVariables false
set_option linter.unusedSimpArgs false
open Go.RowKit Go.Proofs.YtdambnclbpipdaaGreatDoorW.PrintWords Go.Proofs.YtdambnclbpipdaaGreatDoor.Hp Go.Proofs.YtdambnclbpipdaaGreatDoor.X
def bnd (c : Int) : Option (List (Int × Int)) :=
  if c < 128 then some []
  else if c < 194 ∨ 244 < c then none
  else if c < 224 then some [(128, 191)]
  else if c < 240 then some [(if c = 224 then 160 else 128, if c = 237 then 159 else 191), (128, 191)]
  else some [(if c = 240 then 144 else 128, if c = 244 then 143 else 191), (128, 191), (128, 191)]
def st (c : Int) : Int := if c < 128 then c else if c < 224 then c % 32 else if c < 240 then c % 16 else c % 8
def cont : List (Int × Int) → List Int → Int → Int → Int × Int × Bool
  | [], _, r, i => (r, i, false)
  | _ :: _, [], _, i => (65533, i, true)
  | (lo, hi) :: bs, x :: t, r, i => if x < lo ∨ hi < x then (65533, i, false) else cont bs t (r * 64 + x % 64) (i + 1)
def one1 (c : Int) (t : List Int) : Int × Int × Bool :=
  match bnd c with
  | none => (65533, 1, false)
  | some bs => cont bs t (st c) 1
def Bytes (l : List Int) : Prop := ∀ x, x ∈ l → 0 ≤ x ∧ x ≤ 255
theorem cont_width : ∀ (bs : List (Int × Int)) (t : List Int) (r i : Int), i ≤ (cont bs t r i).2.1 ∧ (cont bs t r i).2.1 ≤ i + bs.length ∧ (cont bs t r i).2.1 ≤ i + t.length
  | [], t, r, i => by simp [cont]; omega
  | b :: bs, [], r, i => by simp [cont]; omega
  | (lo, hi) :: bs, x :: t, r, i => by
    simp only [cont]
    split
    · simp; omega
    · have := cont_width bs t (r * 64 + x % 64) (i + 1)
      simp only [List.length_cons]
      omega
theorem bnd_len {c : Int} {bs : List (Int × Int)} (h : bnd c = some bs) : bs.length ≤ 3 := by
  unfold bnd at h
  split at h
  · cases h; decide
  · split at h
    · cases h
    · split at h
      · cases h; simp
      · split at h
        · cases h; simp
        · cases h; simp
theorem one1_width (c : Int) (t : List Int) : 1 ≤ (one1 c t).2.1 ∧ (one1 c t).2.1 ≤ 4 ∧ (one1 c t).2.1 ≤ 1 + t.length := by
  unfold one1
  cases h : bnd c with
  | none => simp; omega
  | some bs =>
    have h1 := cont_width bs t (st c) 1
    have h2 := bnd_len h
    simp only
    omega
theorem rd_at (l : List Int) (i : Nat) (h : i < l.length) : rd l (i : Int) = l[i] := by simp [rd, List.getD_eq_getElem?_getD, h]
theorem step_r (r x : Int) (h0 : 0 ≤ r) (hr : (r + 1) * 64 ≤ 2097152) (hx : 0 ≤ x ∧ x ≤ 255) : bits .or .i32 (wrap32 (r * 64)) (wrap32 (bits .and .u8 x 63)) = r * 64 + x % 64 := by
  have ea : wrap32 (r * 64) = r * 64 := by unfold wrap32; omega
  have eb : wrap32 (bits .and .u8 x 63) = x % 64 := by rw [u8_and63 x hx.1 (by omega)]; unfold wrap32; omega
  rw [ea, eb]
  exact i32_or6 (r * 64) (x % 64) (by omega) (by omega) (by omega) (by omega) (by omega)
theorem step_p {r x : Int} {p : Nat} (h0 : 0 ≤ r) (hp : 1 ≤ p) (hr : (r + 1) * (64 * p : Nat) ≤ 2097152) : (r + 1) * 64 ≤ 2097152 ∧ (r * 64 + x % 64 + 1) * (p : Int) ≤ 2097152 := by
  have e : ((64 * p : Nat) : Int) = 64 * (p : Int) := by push_cast; rfl
  rw [e, ← Int.mul_assoc] at hr
  have h1 : (r + 1) * 64 * 1 ≤ (r + 1) * 64 * (p : Int) := Int.mul_le_mul_of_nonneg_left (by omega) (by omega)
  have h2 : (r * 64 + x % 64 + 1) * (p : Int) ≤ (r + 1) * 64 * (p : Int) := Int.mul_le_mul_of_nonneg_right (by omega) (by omega)
  exact ⟨by omega, Int.le_trans h2 hr⟩
theorem loop_cont (l : List Int) (hb : Bytes l) (hl : l.length ≤ 140737488355328) : ∀ (bs : List (Int × Int)) (k i : Nat) (r lo hi : Int), (∀ b, b ∈ bs.tail → b = (128, 191)) → (∀ b, bs.head? = some b → b = (lo, hi)) → bs.length < k → 0 ≤ r → (r + 1) * (64 ^ bs.length : Nat) ≤ 2097152 → i ≤ l.length →
    utf_one.l0 k l r ((i : Int) + bs.length) lo hi i = some (cont bs (l.drop i) r i)
  | [], k, i, r, lo, hi, _, _, hk, _, _, _ => by
    obtain ⟨k, rfl⟩ : ∃ m, k = m + 1 := ⟨k - 1, by omega⟩
    simp only [utf_one.l0, List.length_nil]
    rw [if_neg (by omega)]
    simp [cont]
  | (lo', hi') :: bs, k, i, r, lo, hi, ht, hh, hk, h0, hr, hi1 => by
    obtain ⟨k, rfl⟩ : ∃ m, k = m + 1 := ⟨k - 1, by omega⟩
    have e := hh _ rfl
    injection e with e1 e2
    subst e1
    subst e2
    simp only [List.length_cons] at hk hr ⊢
    simp only [utf_one.l0]
    rw [if_pos (by omega)]
    by_cases he : i = l.length
    · rw [if_pos (by omega), List.drop_eq_nil_of_le (by omega)]
      simp [cont]
    · have hlt : i < l.length := by omega
      rw [if_neg (by omega), if_pos (by omega), if_pos (by omega), rd_at l i hlt, List.drop_eq_getElem_cons hlt]
      have hx := hb l[i] (List.getElem_mem hlt)
      obtain ⟨x, hxe⟩ : ∃ x, x = l[i] := ⟨_, rfl⟩
      rw [← hxe] at hx ⊢
      simp only [cont]
      by_cases h1 : x < lo'
      · rw [if_pos h1, if_pos (.inl h1)]
      · rw [if_neg h1]
        by_cases h2 : x > hi'
        · rw [if_pos h2, if_pos (.inr h2)]
        · rw [if_neg h2, if_neg (by omega)]
          have hp := step_p (x := x) h0 (Nat.one_le_pow bs.length 64 (by omega)) (by rw [Nat.pow_succ, Nat.mul_comm] at hr; exact hr)
          have ew : wrap64 ((i : Int) + 1) = ((i + 1 : Nat) : Int) := by clear hr hp; unfold wrap64; omega
          have ei : ((i : Int) + ((bs.length + 1 : Nat) : Int)) = (((i + 1 : Nat) : Int) + (bs.length : Int)) := by clear hr hp; omega
          rw [step_r r x h0 hp.1 hx, ew, ei]
          have h0' : 0 ≤ r * 64 + x % 64 := by clear hr hp; omega
          have ih := loop_cont l hb hl bs k (i + 1) (r * 64 + x % 64) 128 191 (fun b hb => ht b (List.mem_of_mem_tail hb)) (fun b hb2 => ht b (List.mem_of_mem_head? hb2)) (by clear hr hp; omega) h0' hp.2 (by clear hr hp; omega)
          rw [ih]
          push_cast
          rfl
theorem lead_some (c : Int) (h : 0 ≤ c ∧ c ≤ 255) : ∃ lo hi, utf_lead.f 8 c = some ((match bnd c with | none => 0 | some bs => (bs.length : Int) + 1), (match bnd c with | none => 0 | some _ => st c), lo, hi) ∧ ∀ b, (bnd c).bind List.head? = some b → b = (lo, hi) := by
  unfold utf_lead.f bnd st
  by_cases h1 : c < 128
  · simp only [if_pos h1]
    refine ⟨128, 191, ?_, by simp⟩
    have : wrap32 c = c := by unfold wrap32; omega
    simp [this]
  · simp only [if_neg h1]
    by_cases h2 : c < 194
    · simp only [if_pos h2, if_pos (show c < 194 ∨ 244 < c from .inl h2), utf_lead.j0, if_true]
      exact ⟨_, _, rfl, by simp⟩
    · simp only [if_neg h2]
      by_cases h3 : c > 244
      · simp only [if_pos (show c < 194 ∨ 244 < c from .inr h3), decide_eq_true h3, utf_lead.j0, if_true]
        exact ⟨_, _, rfl, by simp⟩
      · simp only [if_neg (show ¬ (c < 194 ∨ 244 < c) by omega), decide_eq_false h3, utf_lead.j0, Bool.false_eq_true, if_false]
        have e31 : wrap32 (bits .and .u8 c 31) = c % 32 := by rw [u8_and31 c h.1 (by omega)]; unfold wrap32; omega
        have e15 : wrap32 (bits .and .u8 c 15) = c % 16 := by rw [u8_and15 c h.1 (by omega)]; unfold wrap32; omega
        have e7 : wrap32 (bits .and .u8 c 7) = c % 8 := by rw [u8_and7 c h.1 (by omega)]; unfold wrap32; omega
        rw [e31, e15, e7]
        by_cases h4 : c < 224
        · simp only [if_pos h4]
          exact ⟨_, _, rfl, by simp⟩
        · simp only [if_neg h4]
          by_cases h5 : c < 240
          · simp only [if_pos h5]
            by_cases h6 : c = 224
            · simp only [if_pos h6]
              exact ⟨_, _, rfl, by subst h6; simp⟩
            · simp only [if_neg h6]
              by_cases h7 : c = 237
              · simp only [if_pos h7]
                exact ⟨_, _, rfl, by subst h7; simp⟩
              · simp only [if_neg h7]
                exact ⟨_, _, rfl, by simp⟩
          · simp only [if_neg h5]
            by_cases h6 : c = 240
            · simp only [if_pos h6]
              exact ⟨_, _, rfl, by subst h6; simp⟩
            · simp only [if_neg h6]
              by_cases h7 : c = 244
              · simp only [if_pos h7]
                exact ⟨_, _, rfl, by subst h7; simp⟩
              · simp only [if_neg h7]
                exact ⟨_, _, rfl, by simp⟩
theorem bnd_tail {c : Int} {bs : List (Int × Int)} (h : bnd c = some bs) : ∀ b, b ∈ bs.tail → b = (128, 191) := by
  unfold bnd at h
  split at h
  · cases h; simp
  · split at h
    · cases h
    · split at h
      · cases h; simp
      · split at h
        · cases h; simp
        · cases h; simp
theorem st_bound {c : Int} {bs : List (Int × Int)} (hc : 0 ≤ c ∧ c ≤ 255) (h : bnd c = some bs) : 0 ≤ st c ∧ (st c + 1) * (64 ^ bs.length : Nat) ≤ 2097152 := by
  unfold bnd at h
  unfold st
  split at h
  · rename_i h1; cases h; rw [if_pos h1]; simp; omega
  · rename_i h1
    rw [if_neg h1]
    split at h
    · cases h
    · split at h
      · rename_i h2; cases h; rw [if_pos h2]; simp; omega
      · rename_i h2
        rw [if_neg h2]
        split at h
        · rename_i h3; cases h; rw [if_pos h3]; simp; omega
        · rename_i h3; cases h; rw [if_neg h3]; simp; omega
theorem one_pure (c : Int) (t : List Int) (hb : Bytes (c :: t)) (hl : (c :: t).length ≤ 140737488355328) : utf_one.f 8 (c :: t) = some (one1 c t) := by
  have hc := hb c List.mem_cons_self
  obtain ⟨lo, hi, hlead, hhead⟩ := lead_some c hc
  unfold utf_one.f
  rw [if_pos (by simp), show rd (c :: t) 0 = c from rfl, hlead]
  simp only [Option.bind_some, one1]
  cases h : bnd c with
  | none => simp
  | some bs =>
    simp only
    rw [if_neg (by omega)]
    have := loop_cont (c :: t) hb hl bs 8 1 (st c) lo hi (bnd_tail h) (fun b hb2 => hhead b (by rw [h]; exact hb2)) (by have := bnd_len h; omega) (st_bound hc h).1 (st_bound hc h).2 (by simp)
    rw [show (bs.length : Int) + 1 = ((1 : Nat) : Int) + bs.length by omega]
    simpa using this
end Go.Proofs.YtdambnclbpipdaaGreatDoor.Ux
namespace Go.Proofs.YtdambnclbpipdaaGreatDoor.X
open Go.RowKit Go.Proofs.YtdambnclbpipdaaGreatDoorW.PrintWords Go.Proofs.YtdambnclbpipdaaGreatDoorW.PrintLast Go.Proofs.YtdambnclbpipdaaGreatDoorW.PrintMore
attribute [local go_sem] max2_int min2_int max_two min_two max_three min_three max_four min_four   
set_option linter.unusedVariables false
set_option linter.unusedSimpArgs false
def utf_Valid.f (a0 : Int) : Option (Bool) := if a0 ≥ 0 then (if a0 ≤ 1114111 then (if a0 < 55296 then (some true) else (some (decide (a0 > 57343)))) else (some false)) else (some false)
set_option maxHeartbeats 8000000 in
set_option maxRecDepth 100000 in
theorem utf_Valid.calls (a0 : Int) (r : Bool) (w : World) (h : utf_Valid.f a0 = some r) :
  Calls Tryz.prog 153 #[.int .i32 a0] w fun e w' => e = .returned (.bool r) ∧ Drawn0 w w' := by
 have H : (if a0 ≥ 0 then (if a0 ≤ 1114111 then (if a0 < 55296 then (some true) else (some (decide (a0 > 57343)))) else (some false)) else (some false)) = some r := h
 clear h
 by_cases c2 : a0 ≥ 0
 ·rw [if_pos c2] at H
  have c2b0 : decide (0 ≤ a0) = true := decide_eq_true c2
  clear c2
  by_cases c3 : a0 ≤ 1114111
  ·rw [if_pos c3] at H
   have c3b0 : decide (a0 ≤ 1114111) = true := decide_eq_true c3
   clear c3
   by_cases c4 : a0 < 55296
   ·rw [if_pos c4] at H
    have c4b0 : decide (a0 < 55296) = true := decide_eq_true c4
    clear c4
    obtain rfl := Option.some.inj H
    go_enter Tryz.func153, Tryz.ntmps153
    go_wp2
    go_ret
    exact ⟨by first | rfl | (simp; done) | (simp [*]; done), by repeat (first | exact Drawn0.refl _ | apply Drawn0.step)⟩
   ·rw [if_neg c4] at H
    have c4b0 : decide (a0 < 55296) = false := decide_eq_false c4
    clear c4
    obtain rfl := Option.some.inj H
    go_enter Tryz.func153, Tryz.ntmps153
    go_wp2
    go_ret
    exact ⟨by first | rfl | (simp; done) | (simp [*]; done), by repeat (first | exact Drawn0.refl _ | apply Drawn0.step)⟩
  ·rw [if_neg c3] at H
   have c3b0 : decide (a0 ≤ 1114111) = false := decide_eq_false c3
   clear c3
   obtain rfl := Option.some.inj H
   go_enter Tryz.func153, Tryz.ntmps153
   go_wp2
   go_ret
   exact ⟨by first | rfl | (simp; done) | (simp [*]; done), by repeat (first | exact Drawn0.refl _ | apply Drawn0.step)⟩
 ·rw [if_neg c2] at H
  have c2b0 : decide (0 ≤ a0) = false := decide_eq_false c2
  clear c2
  obtain rfl := Option.some.inj H
  go_enter Tryz.func153, Tryz.ntmps153
  go_wp2
  go_ret
  exact ⟨by first | rfl | (simp; done) | (simp [*]; done), by repeat (first | exact Drawn0.refl _ | apply Drawn0.step)⟩
end Go.Proofs.YtdambnclbpipdaaGreatDoor.X
namespace Go.Proofs.YtdambnclbpipdaaGreatDoor.X
open Go.RowKit Go.Proofs.YtdambnclbpipdaaGreatDoorW.PrintWords Go.Proofs.YtdambnclbpipdaaGreatDoorW.PrintLast Go.Proofs.YtdambnclbpipdaaGreatDoorW.PrintMore
attribute [local go_sem] max2_int min2_int max_two min_two max_three min_three max_four min_four   
set_option linter.unusedVariables false
set_option linter.unusedSimpArgs false
mutual
def utf_Encode.l0 : Nat → List Int → List Int → Int → Int → Option (List Int)
 | 0, _, _, _, _ => none
 | k + 1, x3, x6, x7, x8 => if x8 < x7 then (if 0 ≤ x8 then (if x8 < (x6.length : Int) then ((utf_Valid.f (rd x6 x8)).bind fun t250 => (if t250 = true then (utf_Encode.j1 k x3 (rd x6 x8) x6 x7 x8) else (utf_Encode.j1 k x3 65533 x6 x7 x8))) else (none)) else (none)) else (some x3)
def utf_Encode.j1 : Nat → List Int → Int → List Int → Int → Int → Option (List Int)
 | 0, _, _, _, _, _ => none
 | k + 1, x3, x5, x6, x7, x8 => if x5 < 128 then (if x3.length < 140737488355328 then (utf_Encode.l0 k (x3 ++ [(x5) % 256]) x6 x7 (wrap64 (x8 + 1))) else (none)) else (if x5 < 2048 then ((some (([Go.bits .or .u8 192 ((x5 / 64) % 256), Go.bits .or .u8 128 ((Go.bits .and .i32 x5 63) % 256)] : List Int) : List Int)).bind fun y254 => (if x3.length + y254.length < 140737488355328 then (utf_Encode.l0 k (x3 ++ y254) x6 x7 (wrap64 (x8 + 1))) else (none))) else (if x5 < 65536 then ((some (([Go.bits .or .u8 224 ((x5 / 4096) % 256), Go.bits .or .u8 128 ((Go.bits .and .i32 (x5 / 64) 63) % 256), Go.bits .or .u8 128 ((Go.bits .and .i32 x5 63) % 256)] : List Int) : List Int)).bind fun y260 => (if x3.length + y260.length < 140737488355328 then (utf_Encode.l0 k (x3 ++ y260) x6 x7 (wrap64 (x8 + 1))) else (none))) else ((some (([Go.bits .or .u8 240 ((x5 / 262144) % 256), Go.bits .or .u8 128 ((Go.bits .and .i32 (x5 / 4096) 63) % 256), Go.bits .or .u8 128 ((Go.bits .and .i32 (x5 / 64) 63) % 256), Go.bits .or .u8 128 ((Go.bits .and .i32 x5 63) % 256)] : List Int) : List Int)).bind fun y266 => (if x3.length + y266.length < 140737488355328 then (utf_Encode.l0 k (x3 ++ y266) x6 x7 (wrap64 (x8 + 1))) else (none)))))
end
def utf_Encode.f (k : Nat) (l0 : List Int) : Option (List Int) := utf_Encode.l0 k ([] : List Int) l0 (l0.length : Int) 0
theorem utf_Encode.mono_l : ∀ k, (∀ y0 y1 y2 y3, LeO (utf_Encode.l0 k y0 y1 y2 y3) (utf_Encode.l0 (k + 1) y0 y1 y2 y3)) ∧ (∀ y0 y1 y2 y3 y4, LeO (utf_Encode.j1 k y0 y1 y2 y3 y4) (utf_Encode.j1 (k + 1) y0 y1 y2 y3 y4))
 | 0 => ⟨fun _ _ _ _ r h => by simp [utf_Encode.l0] at h, fun _ _ _ _ _ r h => by simp [utf_Encode.j1] at h⟩
 | k + 1 => by
  obtain ⟨ih0, ih1⟩ := utf_Encode.mono_l k
  refine ⟨?_, ?_⟩
  ·intro y0 y1 y2 y3
   unfold utf_Encode.l0
   repeat' first
   | (with_reducible exact ih0 _ _ _ _)
   | (with_reducible exact ih1 _ _ _ _ _)
   | (with_reducible exact LeO.refl _)
   | (with_reducible exact LeO.none _)
   | (with_reducible refine LeO.ite ?_ ?_)
   | (with_reducible refine LeO.bind ?_ (fun _ => ?_))
   | exact ih0 _ _ _ _
   | exact ih1 _ _ _ _ _
   | exact LeO.none _
   | refine LeO.ite ?_ ?_
   | refine LeO.bind ?_ (fun _ => ?_)
  ·intro y0 y1 y2 y3 y4
   unfold utf_Encode.j1
   repeat' first
   | (with_reducible exact ih0 _ _ _ _)
   | (with_reducible exact ih1 _ _ _ _ _)
   | (with_reducible exact LeO.refl _)
   | (with_reducible exact LeO.none _)
   | (with_reducible refine LeO.ite ?_ ?_)
   | (with_reducible refine LeO.bind ?_ (fun _ => ?_))
   | exact ih0 _ _ _ _
   | exact ih1 _ _ _ _ _
   | exact LeO.none _
   | refine LeO.ite ?_ ?_
   | refine LeO.bind ?_ (fun _ => ?_)
theorem utf_Encode.mono : ∀ a0 k, LeO (utf_Encode.f k a0) (utf_Encode.f (k + 1) a0) := by
 intro a0 k
 obtain ⟨ih0, ih1⟩ := utf_Encode.mono_l k
 unfold utf_Encode.f
 repeat' first
   | (with_reducible exact ih0 _ _ _ _)
   | (with_reducible exact ih1 _ _ _ _ _)
   | (with_reducible exact LeO.refl _)
   | (with_reducible exact LeO.none _)
   | (with_reducible refine LeO.ite ?_ ?_)
   | (with_reducible refine LeO.bind ?_ (fun _ => ?_))
   | exact ih0 _ _ _ _
   | exact ih1 _ _ _ _ _
   | exact LeO.none _
   | refine LeO.ite ?_ ?_
   | refine LeO.bind ?_ (fun _ => ?_)
set_option maxHeartbeats 8000000 in
set_option maxRecDepth 100000 in
theorem utf_Encode.calls (k : Nat) (A0 : Option Addr) (c0 : Nat) (l0 : List Int) (r : List Int) (w : World) (hr0 : Kd.C (Kd.int .i32) w A0 l0.length l0) (hc0 : l0.length ≤ c0) (h : utf_Encode.f k l0 = some r) :
  Calls Tryz.prog 116 #[.slice A0 l0.length c0] w fun e w' => ∃ v0_ : Value, e = .returned (v0_) ∧ Kd.R (Kd.int .u8) 5 w' w.heap.size (fun _ => True) v0_ r ∧ Below w.heap.size w w' := by
 have HR0 := Aside0.mk hr0
 have HC0 := Aside0.mk hc0
 clear hr0 hc0
 have HB := Aside0.mk (Below.refl w.heap.size w)
 have H : (utf_Encode.l0 k ([] : List Int) l0 (l0.length : Int) 0) = some r := h
 clear h
 have H' := Aside0.mk H
 clear H
 go_enter Tryz.func116, Tryz.ntmps116
 go_wp2
 go_loopg [3, 8] k (fun kq v3 v8 w' => ∃ (x3_1 : List Int) (x8_1 : Int), v8 = .int .i64 x8_1 ∧ Aside0 (utf_Encode.l0 kq x3_1 l0 (l0.length : Int) x8_1 = some r) ∧ Aside0 (kq ≤ k) ∧ Aside0 (Kd.R (Kd.int .u8) 5 w' w.heap.size (fun _ => True) v3 x3_1) ∧ Aside0 (Below w.heap.size w w'))
 case atStart => exact ⟨(([] : List Int)), (0), (by first | rfl | (simp; done) | (simp [*]; done)), H', ⟨Nat.le_refl _⟩, ⟨by first | exact Kd.R_nil _ _ _ _ _ | exact Kd.N_nil _ _ _ _ _ | exact Kd.V_nil _ _ _ _ _ | exact Kd.Q_nil _ _ _ _ _ | exact Kd.S_nil _ _ _ _ _⟩, ⟨by repeat (first | (with_reducible first | exact HB.out | apply below_alloc | apply pw_below_drewN | apply below_drew1) | exact HB.out)⟩⟩
 case round =>
  clear H'
  try clear c1
  obtain ⟨x3_1, x8_1, rfl, HA, HK1, HO_3, HB⟩ := hrel
  cases gk with
  | zero => exact absurd HA.out (by simp [utf_Encode.l0])
  | succ k1 =>
   have H := HA.out
   clear HA
   simp only [utf_Encode.l0] at H
   by_cases c2 : x8_1 < (l0.length : Int)
   ·rw [if_pos c2] at H
    have c2b0 : decide (x8_1 < (l0.length : Int)) = true := decide_eq_true c2
    clear c2
    by_cases c3 : 0 ≤ x8_1
    ·rw [if_pos c3] at H
     have c3b0 : decide (0 ≤ x8_1) = true := decide_eq_true c3
     clear c3
     by_cases c4 : x8_1 < (l0.length : Int)
     ·rw [if_pos c4] at H
      have c4b0 : decide (x8_1 < (l0.length : Int)) = true := decide_eq_true c4
      clear c4
      replace H := Option.bind_eq_some_iff.mp H
      obtain ⟨t250, A50, H⟩ := H
      replace H : (if t250 = true then (utf_Encode.j1 k1 x3_1 (rd l0 x8_1) l0 (l0.length : Int) x8_1) else (utf_Encode.j1 k1 x3_1 65533 l0 (l0.length : Int) x8_1)) = some r := H
      have A5 := Aside0.mk A50
      clear A50
      have HC6 := Aside0.mk H
      clear H
      have p249 : 0 ≤ (x8_1 : Int) := of_decide_eq_true (by first | (with_reducible assumption) | assumption)
      have q249 : x8_1 < (l0.length : Int) := of_decide_eq_true (by first | (with_reducible assumption) | assumption)
      obtain ⟨ad249, e249, hx249_0⟩ := Kd.at_int HR0.out x8_1 p249 q249
      cases e249
      replace hx249_0 := (HB.out.cell (World.block_lt_of_cell? w _ hx249_0)).trans hx249_0
      replace p249 := eq_true p249
      replace q249 := eq_true q249
      go_upto_if 14 with (first | ((with_reducible refine gate_callee (f := 153) rfl ?_); refine goesL_ (some 13) rfl rfl Tryz.func153 (by kernel_rfl) rfl #[.int .i32 (rd l0 x8_1)] rfl (by (try simp only [List.map_toArray, List.map_cons, List.map_nil]); first | done | rfl | (simp only [List.length_drop, List.length_take]; rfl)) ?_; (with_reducible refine (utf_Valid.calls (rd l0 x8_1) t250 _ A5.out).mono ?_); rintro e w' ⟨rfl, ⟨nd, rfl⟩⟩; refine ⟨_, rfl, ?_⟩))
      (try simp only [Act.put, List.setIfInBounds_toArray, List.set_cons_zero, List.set_cons_succ])
      go_cut [5] (fun v5 wc => ∃ (kq : Nat) (x5_5 : Int), v5 = .int .i32 x5_5 ∧ Aside0 (utf_Encode.j1 kq x3_1 x5_5 l0 (l0.length : Int) x8_1 = some r) ∧ Aside0 (kq ≤ k1) ∧ Aside0 (Kd.R (Kd.int .u8) 5 wc w.heap.size (fun _ => True) u3 x3_1) ∧ Aside0 (Below w.heap.size w wc))
      case first =>
       have H := HC6.out
       clear HC6
       by_cases c7 : t250 = true
       ·subst c7
        have H1 : (utf_Encode.j1 k1 x3_1 (rd l0 x8_1) l0 (l0.length : Int) x8_1) = some r := by rw [if_pos rfl] at H; exact H
        clear H
        have H := H1
        clear H1
        have H' := Aside0.mk H
        clear H
        go_wp2
        go_meet
        case rel => exact ⟨_, (rd l0 x8_1), (by first | rfl | (simp; done) | (simp [*]; done)), H', ⟨by have := HK1.out; first | omega | exact Nat.le_refl _⟩, ⟨by (with_reducible repeat (first | apply Kd.R_alloc | apply Kd.R_drewN | apply Kd.R_drew)); exact HO_3.out⟩, ⟨by repeat (first | (with_reducible first | exact HB.out | apply below_alloc | apply pw_below_drewN | apply below_drew1) | exact HB.out)⟩⟩
       ·replace c7 := Bool.eq_false_iff.mpr c7
        subst c7
        have H1 : (utf_Encode.j1 k1 x3_1 65533 l0 (l0.length : Int) x8_1) = some r := by rw [if_neg (show ¬ (false = true) by decide)] at H; exact H
        clear H
        have H := H1
        clear H1
        have H' := Aside0.mk H
        clear H
        go_wp2
        go_meet
        case rel => exact ⟨_, (65533), (by first | rfl | (simp; done) | (simp [*]; done)), H', ⟨by have := HK1.out; first | omega | exact Nat.le_refl _⟩, ⟨by (with_reducible repeat (first | apply Kd.R_alloc | apply Kd.R_drewN | apply Kd.R_drew)); exact HO_3.out⟩, ⟨by repeat (first | (with_reducible first | exact HB.out | apply below_alloc | apply pw_below_drewN | apply below_drew1) | exact HB.out)⟩⟩
      case rest =>
       clear HC6
       try clear c1
       try clear c2
       try clear c2b0
       try clear p2
       try clear q2
       try clear hx2
       try clear c3
       try clear c3b0
       try clear c4
       try clear c4b0
       try clear c7
       try clear hx249_0
       try clear p249
       try clear q249
       obtain ⟨kq, x5_5, rfl, HA, HJ5, HO_3, HB⟩ := hcut
       cases kq with
       | zero => exact absurd HA.out (by simp [utf_Encode.j1])
       | succ kj5 =>
        have H := HA.out
        clear HA
        simp only [utf_Encode.j1] at H
        by_cases c8 : x5_5 < 128
        ·rw [if_pos c8] at H
         have c8b0 : decide (x5_5 < 128) = true := decide_eq_true c8
         clear c8
         by_cases c9 : x3_1.length < 140737488355328
         ·rw [if_pos c9] at H
          have LMc9 := Aside0.mk c9
          clear c9
          obtain ⟨y251, hy251⟩ : ∃ y_ : List Int, y_ = (x3_1 ++ [(x5_5) % 256]) := ⟨_, rfl⟩
          replace H : (utf_Encode.l0 kj5 y251 l0 (l0.length : Int) (wrap64 (x8_1 + 1))) = some r := by first | (rw [hy251]; with_reducible exact H) | (have H2_ := (Option.bind_some _ _).symm.trans H; rw [hy251]; with_reducible exact H2_) | (have H2_ := (Option.bind_some _ _).symm.trans H; with_reducible exact H2_) | with_reducible exact H | (rw [hy251]; exact H) | exact H
          have Ny251 := Aside0.mk hy251
          clear hy251
          have H' := Aside0.mk H
          clear H
          go_wp2_with (first | ((with_reducible refine gate_builtin (b := .append) (xs := #[.tmp 39, .tmp 42]) rfl ?_); at_builtin; refine Kd.R_append (Kd.int .u8) (w0 := w) w.heap.size rfl (.tmp 39) (.tmp 42) 28 5 (.int .u8 0) 1 rfl Tryz.underlying28 info5 rfl (by decide) (by omega) u3 x3_1 ((x5_5) % 256) [.int .u8 ((x5_5) % 256)] (fun _ => True) (fun _ => False) rfl rfl ?aP (fun _ hk => hk.elim) ?aF ?aO ?aB ?aS ?aL ?_; (case aP => exact rfl); (case aB => exact (by repeat (first | (with_reducible first | exact HB.out | apply below_alloc | apply pw_below_drewN | apply below_drew1) | exact HB.out))); (case aF => exact (fun _ _ => trivial)); (case aO => exact (by (with_reducible repeat (first | apply Kd.R_alloc | apply Kd.R_drewN | apply Kd.R_drew)); exact HO_3.out)); (case aS => exact (below_size (by repeat (first | (with_reducible first | exact HB.out | apply below_alloc | apply pw_below_drewN | apply below_drew1) | exact HB.out)))); (case aL => have := LMc9.out; omega); intro v252 w10 ho hb hg hat; rw [← Ny251.out] at ho; have n0_ := Aside0.mk (hb); have n1_ := Aside0.mk (ho); clear HB; clear HO_3; have HB := n0_; have HO253 := n1_; clear n0_ n1_; clear ho hb hg hat))
          go_roundg kj5
          case measure => have := HK1.out; have := HJ5.out; omega
          case rel => exact ⟨(y251), (wrap64 (x8_1 + 1)), (by first | rfl | (simp; done) | (simp [*]; done)), H', ⟨by have := HK1.out; have := HJ5.out; omega⟩, ⟨by (with_reducible repeat (first | apply Kd.R_alloc | apply Kd.R_drewN | apply Kd.R_drew)); exact HO253.out⟩, ⟨by repeat (first | (with_reducible first | exact HB.out | apply below_alloc | apply pw_below_drewN | apply below_drew1) | exact HB.out)⟩⟩
         ·rw [if_neg c9] at H
          exact absurd H (by simp)
        ·rw [if_neg c8] at H
         have c8b0 : decide (x5_5 < 128) = false := decide_eq_false c8
         clear c8
         by_cases c11 : x5_5 < 2048
         ·rw [if_pos c11] at H
          have c11b0 : decide (x5_5 < 2048) = true := decide_eq_true c11
          clear c11
          obtain ⟨y254, hy254⟩ : ∃ y_ : List Int, y_ = (([Go.bits .or .u8 192 ((x5_5 / 64) % 256), Go.bits .or .u8 128 ((Go.bits .and .i32 x5_5 63) % 256)] : List Int)) := ⟨_, rfl⟩
          replace H : (if x3_1.length + y254.length < 140737488355328 then (utf_Encode.l0 kj5 (x3_1 ++ y254) l0 (l0.length : Int) (wrap64 (x8_1 + 1))) else (none)) = some r := by first | (rw [hy254]; with_reducible exact H) | (have H2_ := (Option.bind_some _ _).symm.trans H; rw [hy254]; with_reducible exact H2_) | (have H2_ := (Option.bind_some _ _).symm.trans H; with_reducible exact H2_) | with_reducible exact H | (rw [hy254]; exact H) | exact H
          have Ny254 := Aside0.mk hy254
          clear hy254
          by_cases c12 : x3_1.length + y254.length < 140737488355328
          ·rw [if_pos c12] at H
           have LMc12 := Aside0.mk c12
           clear c12
           obtain ⟨y257, hy257⟩ : ∃ y_ : List Int, y_ = (x3_1 ++ y254) := ⟨_, rfl⟩
           replace H : (utf_Encode.l0 kj5 y257 l0 (l0.length : Int) (wrap64 (x8_1 + 1))) = some r := by first | (rw [hy257]; with_reducible exact H) | (have H2_ := (Option.bind_some _ _).symm.trans H; rw [hy257]; with_reducible exact H2_) | (have H2_ := (Option.bind_some _ _).symm.trans H; with_reducible exact H2_) | with_reducible exact H | (rw [hy257]; exact H) | exact H
           have Ny257 := Aside0.mk hy257
           clear hy257
           have H' := Aside0.mk H
           clear H
           go_wp2_with (first | ((with_reducible refine gate_dst (N := 56) rfl ?_); refine Kd.R_lit (Kd.int .u8) _ 5 ?hg (N := 56) ?hd (xs := ([Go.bits .or .u8 192 ((x5_5 / 64) % 256), Go.bits .or .u8 128 ((Go.bits .and .i32 x5_5 63) % 256)] : List Int)) (inner := [.int .u8 (Go.bits .or .u8 192 ((x5_5 / 64) % 256)), .int .u8 (Go.bits .or .u8 128 ((Go.bits .and .i32 x5_5 63) % 256))]) (ok := fun _ => True) (okp := fun _ => True) ?hr ?hp (fun _ hk => hk) trivial (Below.refl _ _) (Nat.le_refl _) (by simp) ?_; (case hd => rfl); (case hg => rfl); (case hr => first | (go_simp; done) | (go_simp; rfl)); (case hp => exact (Reps.one (show Kd.M (Kd.int .u8) _ _ _ (Go.bits .or .u8 192 ((x5_5 / 64) % 256)) [.int .u8 (Go.bits .or .u8 192 ((x5_5 / 64) % 256))] from rfl) (Reps.one (show Kd.M (Kd.int .u8) _ _ _ (Go.bits .or .u8 128 ((Go.bits .and .i32 x5_5 63) % 256)) [.int .u8 (Go.bits .or .u8 128 ((Go.bits .and .i32 x5_5 63) % 256))] from rfl) (Reps.none _ _)))); intro v255 w13 ho14 hb hg_ hnew_; clear hg_ hnew_; (first | rw [← Ny254.out] at ho14 | (simp only [Int.reduceToNat] at ho14; rw [← Ny254.out] at ho14)); have n0_ := Aside0.mk (Kd.R_elder' (by (with_reducible repeat (first | apply Kd.R_alloc | apply Kd.R_drewN | apply Kd.R_drew)); exact HO_3.out) (Kd.R_base ho14) hb); have n1_ := Aside0.mk (Kd.R_lower (Kd.R_new' ho14 (Kd.R_lt (by (with_reducible repeat (first | apply Kd.R_alloc | apply Kd.R_drewN | apply Kd.R_drew)); exact HO_3.out))) (below_size (by repeat (first | (with_reducible first | exact HB.out | apply below_alloc | apply pw_below_drewN | apply below_drew1) | exact HB.out)))); have n2_ := Aside0.mk (below_step (by repeat (first | (with_reducible first | exact HB.out | apply below_alloc | apply pw_below_drewN | apply below_drew1) | exact HB.out)) hb); clear HO_3; clear HB; have HO_3 := n0_; have HO256 := n1_; have HB := n2_; clear n0_ n1_ n2_; clear hb ho14; obtain ⟨Ao16, co16, eo16⟩ := Kd.R_slice HO256.out; subst eo16) | ((with_reducible refine gate_builtin (b := .append) (xs := #[.tmp 47, .tmp 56]) rfl ?_); at_builtin; refine Kd.R_append_rows (Kd.int .u8) (w0 := w) w.heap.size rfl (.tmp 47) (.tmp 56) 28 5 (.int .u8 0) 1 rfl Tryz.underlying28 info5 rfl (by decide) (by omega) u3 x3_1 y254 _ _ _ (fun k_ => some k_ ≠ (.slice Ao16 y254.length co16 : Value).ownBlock) (fun _ => False) rfl rfl ?aO ?aR (fun _ _ h => h) (fun _ h => h.elim) ?aF ?aB ?aS ?aL ?_; (case aR => repeat (first | exact (Kd.R_reads' HO256.out).2.2 | (with_reducible refine Kd.C_alloc ?_ _) | (with_reducible refine Kd.C_drewN ?_ _) | (with_reducible refine Kd.C_drew ?_))); (case aB => exact (by repeat (first | (with_reducible first | exact HB.out | apply below_alloc | apply pw_below_drewN | apply below_drew1) | exact HB.out))); (case aF => exact (fun k_ hk => Kd.fresh' (Kd.R_lt (by (with_reducible repeat (first | apply Kd.R_alloc | apply Kd.R_drewN | apply Kd.R_drew)); exact HO256.out)) k_ hk)); (case aO => exact (by (with_reducible repeat (first | apply Kd.R_alloc | apply Kd.R_drewN | apply Kd.R_drew)); exact Kd.R_mono HO_3.out (fun _ hk => hk.2))); (case aS => exact (below_size (by repeat (first | (with_reducible first | exact HB.out | apply below_alloc | apply pw_below_drewN | apply below_drew1) | exact HB.out)))); (case aL => have := LMc12.out; omega); intro v258 w15 ho hb hg hat; rw [← Ny257.out] at ho; have n0_ := Aside0.mk (Kd.R_after (ok := (fun _ => True)) (by (with_reducible repeat (first | apply Kd.R_alloc | apply Kd.R_drewN | apply Kd.R_drew)); exact HO256.out) hg hat); have n1_ := Aside0.mk (hb); have n2_ := Aside0.mk (ho); clear HO256; clear HB; clear HO_3; have HO256 := n0_; have HB := n1_; have HO259 := n2_; clear n0_ n1_ n2_; clear ho hb hg hat))
           go_roundg kj5
           case measure => have := HK1.out; have := HJ5.out; omega
           case rel => exact ⟨(y257), (wrap64 (x8_1 + 1)), (by first | rfl | (simp; done) | (simp [*]; done)), H', ⟨by have := HK1.out; have := HJ5.out; omega⟩, ⟨by (with_reducible repeat (first | apply Kd.R_alloc | apply Kd.R_drewN | apply Kd.R_drew)); exact Kd.R_mono HO259.out (fun _ hk => trivial)⟩, ⟨by repeat (first | (with_reducible first | exact HB.out | apply below_alloc | apply pw_below_drewN | apply below_drew1) | exact HB.out)⟩⟩
          ·rw [if_neg c12] at H
           exact absurd H (by simp)
         ·rw [if_neg c11] at H
          have c11b0 : decide (x5_5 < 2048) = false := decide_eq_false c11
          clear c11
          by_cases c17 : x5_5 < 65536
          ·rw [if_pos c17] at H
           have c17b0 : decide (x5_5 < 65536) = true := decide_eq_true c17
           clear c17
           obtain ⟨y260, hy260⟩ : ∃ y_ : List Int, y_ = (([Go.bits .or .u8 224 ((x5_5 / 4096) % 256), Go.bits .or .u8 128 ((Go.bits .and .i32 (x5_5 / 64) 63) % 256), Go.bits .or .u8 128 ((Go.bits .and .i32 x5_5 63) % 256)] : List Int)) := ⟨_, rfl⟩
           replace H : (if x3_1.length + y260.length < 140737488355328 then (utf_Encode.l0 kj5 (x3_1 ++ y260) l0 (l0.length : Int) (wrap64 (x8_1 + 1))) else (none)) = some r := by first | (rw [hy260]; with_reducible exact H) | (have H2_ := (Option.bind_some _ _).symm.trans H; rw [hy260]; with_reducible exact H2_) | (have H2_ := (Option.bind_some _ _).symm.trans H; with_reducible exact H2_) | with_reducible exact H | (rw [hy260]; exact H) | exact H
           have Ny260 := Aside0.mk hy260
           clear hy260
           by_cases c18 : x3_1.length + y260.length < 140737488355328
           ·rw [if_pos c18] at H
            have LMc18 := Aside0.mk c18
            clear c18
            obtain ⟨y263, hy263⟩ : ∃ y_ : List Int, y_ = (x3_1 ++ y260) := ⟨_, rfl⟩
            replace H : (utf_Encode.l0 kj5 y263 l0 (l0.length : Int) (wrap64 (x8_1 + 1))) = some r := by first | (rw [hy263]; with_reducible exact H) | (have H2_ := (Option.bind_some _ _).symm.trans H; rw [hy263]; with_reducible exact H2_) | (have H2_ := (Option.bind_some _ _).symm.trans H; with_reducible exact H2_) | with_reducible exact H | (rw [hy263]; exact H) | exact H
            have Ny263 := Aside0.mk hy263
            clear hy263
            have H' := Aside0.mk H
            clear H
            go_wp2_with (first | ((with_reducible refine gate_dst (N := 75) rfl ?_); refine Kd.R_lit (Kd.int .u8) _ 5 ?hg (N := 75) ?hd (xs := ([Go.bits .or .u8 224 ((x5_5 / 4096) % 256), Go.bits .or .u8 128 ((Go.bits .and .i32 (x5_5 / 64) 63) % 256), Go.bits .or .u8 128 ((Go.bits .and .i32 x5_5 63) % 256)] : List Int)) (inner := [.int .u8 (Go.bits .or .u8 224 ((x5_5 / 4096) % 256)), .int .u8 (Go.bits .or .u8 128 ((Go.bits .and .i32 (x5_5 / 64) 63) % 256)), .int .u8 (Go.bits .or .u8 128 ((Go.bits .and .i32 x5_5 63) % 256))]) (ok := fun _ => True) (okp := fun _ => True) ?hr ?hp (fun _ hk => hk) trivial (Below.refl _ _) (Nat.le_refl _) (by simp) ?_; (case hd => rfl); (case hg => rfl); (case hr => first | (go_simp; done) | (go_simp; rfl)); (case hp => exact (Reps.one (show Kd.M (Kd.int .u8) _ _ _ (Go.bits .or .u8 224 ((x5_5 / 4096) % 256)) [.int .u8 (Go.bits .or .u8 224 ((x5_5 / 4096) % 256))] from rfl) (Reps.one (show Kd.M (Kd.int .u8) _ _ _ (Go.bits .or .u8 128 ((Go.bits .and .i32 (x5_5 / 64) 63) % 256)) [.int .u8 (Go.bits .or .u8 128 ((Go.bits .and .i32 (x5_5 / 64) 63) % 256))] from rfl) (Reps.one (show Kd.M (Kd.int .u8) _ _ _ (Go.bits .or .u8 128 ((Go.bits .and .i32 x5_5 63) % 256)) [.int .u8 (Go.bits .or .u8 128 ((Go.bits .and .i32 x5_5 63) % 256))] from rfl) (Reps.none _ _))))); intro v261 w19 ho20 hb hg_ hnew_; clear hg_ hnew_; (first | rw [← Ny260.out] at ho20 | (simp only [Int.reduceToNat] at ho20; rw [← Ny260.out] at ho20)); have n0_ := Aside0.mk (Kd.R_elder' (by (with_reducible repeat (first | apply Kd.R_alloc | apply Kd.R_drewN | apply Kd.R_drew)); exact HO_3.out) (Kd.R_base ho20) hb); have n1_ := Aside0.mk (Kd.R_lower (Kd.R_new' ho20 (Kd.R_lt (by (with_reducible repeat (first | apply Kd.R_alloc | apply Kd.R_drewN | apply Kd.R_drew)); exact HO_3.out))) (below_size (by repeat (first | (with_reducible first | exact HB.out | apply below_alloc | apply pw_below_drewN | apply below_drew1) | exact HB.out)))); have n2_ := Aside0.mk (below_step (by repeat (first | (with_reducible first | exact HB.out | apply below_alloc | apply pw_below_drewN | apply below_drew1) | exact HB.out)) hb); clear HO_3; clear HB; have HO_3 := n0_; have HO262 := n1_; have HB := n2_; clear n0_ n1_ n2_; clear hb ho20; obtain ⟨Ao22, co22, eo22⟩ := Kd.R_slice HO262.out; subst eo22) | ((with_reducible refine gate_builtin (b := .append) (xs := #[.tmp 61, .tmp 75]) rfl ?_); at_builtin; refine Kd.R_append_rows (Kd.int .u8) (w0 := w) w.heap.size rfl (.tmp 61) (.tmp 75) 28 5 (.int .u8 0) 1 rfl Tryz.underlying28 info5 rfl (by decide) (by omega) u3 x3_1 y260 _ _ _ (fun k_ => some k_ ≠ (.slice Ao22 y260.length co22 : Value).ownBlock) (fun _ => False) rfl rfl ?aO ?aR (fun _ _ h => h) (fun _ h => h.elim) ?aF ?aB ?aS ?aL ?_; (case aR => repeat (first | exact (Kd.R_reads' HO262.out).2.2 | (with_reducible refine Kd.C_alloc ?_ _) | (with_reducible refine Kd.C_drewN ?_ _) | (with_reducible refine Kd.C_drew ?_))); (case aB => exact (by repeat (first | (with_reducible first | exact HB.out | apply below_alloc | apply pw_below_drewN | apply below_drew1) | exact HB.out))); (case aF => exact (fun k_ hk => Kd.fresh' (Kd.R_lt (by (with_reducible repeat (first | apply Kd.R_alloc | apply Kd.R_drewN | apply Kd.R_drew)); exact HO262.out)) k_ hk)); (case aO => exact (by (with_reducible repeat (first | apply Kd.R_alloc | apply Kd.R_drewN | apply Kd.R_drew)); exact Kd.R_mono HO_3.out (fun _ hk => hk.2))); (case aS => exact (below_size (by repeat (first | (with_reducible first | exact HB.out | apply below_alloc | apply pw_below_drewN | apply below_drew1) | exact HB.out)))); (case aL => have := LMc18.out; omega); intro v264 w21 ho hb hg hat; rw [← Ny263.out] at ho; have n0_ := Aside0.mk (Kd.R_after (ok := (fun _ => True)) (by (with_reducible repeat (first | apply Kd.R_alloc | apply Kd.R_drewN | apply Kd.R_drew)); exact HO262.out) hg hat); have n1_ := Aside0.mk (hb); have n2_ := Aside0.mk (ho); clear HO262; clear HB; clear HO_3; have HO262 := n0_; have HB := n1_; have HO265 := n2_; clear n0_ n1_ n2_; clear ho hb hg hat))
            go_roundg kj5
            case measure => have := HK1.out; have := HJ5.out; omega
            case rel => exact ⟨(y263), (wrap64 (x8_1 + 1)), (by first | rfl | (simp; done) | (simp [*]; done)), H', ⟨by have := HK1.out; have := HJ5.out; omega⟩, ⟨by (with_reducible repeat (first | apply Kd.R_alloc | apply Kd.R_drewN | apply Kd.R_drew)); exact Kd.R_mono HO265.out (fun _ hk => trivial)⟩, ⟨by repeat (first | (with_reducible first | exact HB.out | apply below_alloc | apply pw_below_drewN | apply below_drew1) | exact HB.out)⟩⟩
           ·rw [if_neg c18] at H
            exact absurd H (by simp)
          ·rw [if_neg c17] at H
           have c17b0 : decide (x5_5 < 65536) = false := decide_eq_false c17
           clear c17
           obtain ⟨y266, hy266⟩ : ∃ y_ : List Int, y_ = (([Go.bits .or .u8 240 ((x5_5 / 262144) % 256), Go.bits .or .u8 128 ((Go.bits .and .i32 (x5_5 / 4096) 63) % 256), Go.bits .or .u8 128 ((Go.bits .and .i32 (x5_5 / 64) 63) % 256), Go.bits .or .u8 128 ((Go.bits .and .i32 x5_5 63) % 256)] : List Int)) := ⟨_, rfl⟩
           replace H : (if x3_1.length + y266.length < 140737488355328 then (utf_Encode.l0 kj5 (x3_1 ++ y266) l0 (l0.length : Int) (wrap64 (x8_1 + 1))) else (none)) = some r := by first | (rw [hy266]; with_reducible exact H) | (have H2_ := (Option.bind_some _ _).symm.trans H; rw [hy266]; with_reducible exact H2_) | (have H2_ := (Option.bind_some _ _).symm.trans H; with_reducible exact H2_) | with_reducible exact H | (rw [hy266]; exact H) | exact H
           have Ny266 := Aside0.mk hy266
           clear hy266
           by_cases c23 : x3_1.length + y266.length < 140737488355328
           ·rw [if_pos c23] at H
            have LMc23 := Aside0.mk c23
            clear c23
            obtain ⟨y269, hy269⟩ : ∃ y_ : List Int, y_ = (x3_1 ++ y266) := ⟨_, rfl⟩
            replace H : (utf_Encode.l0 kj5 y269 l0 (l0.length : Int) (wrap64 (x8_1 + 1))) = some r := by first | (rw [hy269]; with_reducible exact H) | (have H2_ := (Option.bind_some _ _).symm.trans H; rw [hy269]; with_reducible exact H2_) | (have H2_ := (Option.bind_some _ _).symm.trans H; with_reducible exact H2_) | with_reducible exact H | (rw [hy269]; exact H) | exact H
            have Ny269 := Aside0.mk hy269
            clear hy269
            have H' := Aside0.mk H
            clear H
            go_wp2_with (first | ((with_reducible refine gate_dst (N := 34) rfl ?_); refine Kd.R_lit (Kd.int .u8) _ 5 ?hg (N := 34) ?hd (xs := ([Go.bits .or .u8 240 ((x5_5 / 262144) % 256), Go.bits .or .u8 128 ((Go.bits .and .i32 (x5_5 / 4096) 63) % 256), Go.bits .or .u8 128 ((Go.bits .and .i32 (x5_5 / 64) 63) % 256), Go.bits .or .u8 128 ((Go.bits .and .i32 x5_5 63) % 256)] : List Int)) (inner := [.int .u8 (Go.bits .or .u8 240 ((x5_5 / 262144) % 256)), .int .u8 (Go.bits .or .u8 128 ((Go.bits .and .i32 (x5_5 / 4096) 63) % 256)), .int .u8 (Go.bits .or .u8 128 ((Go.bits .and .i32 (x5_5 / 64) 63) % 256)), .int .u8 (Go.bits .or .u8 128 ((Go.bits .and .i32 x5_5 63) % 256))]) (ok := fun _ => True) (okp := fun _ => True) ?hr ?hp (fun _ hk => hk) trivial (Below.refl _ _) (Nat.le_refl _) (by simp) ?_; (case hd => rfl); (case hg => rfl); (case hr => first | (go_simp; done) | (go_simp; rfl)); (case hp => exact (Reps.one (show Kd.M (Kd.int .u8) _ _ _ (Go.bits .or .u8 240 ((x5_5 / 262144) % 256)) [.int .u8 (Go.bits .or .u8 240 ((x5_5 / 262144) % 256))] from rfl) (Reps.one (show Kd.M (Kd.int .u8) _ _ _ (Go.bits .or .u8 128 ((Go.bits .and .i32 (x5_5 / 4096) 63) % 256)) [.int .u8 (Go.bits .or .u8 128 ((Go.bits .and .i32 (x5_5 / 4096) 63) % 256))] from rfl) (Reps.one (show Kd.M (Kd.int .u8) _ _ _ (Go.bits .or .u8 128 ((Go.bits .and .i32 (x5_5 / 64) 63) % 256)) [.int .u8 (Go.bits .or .u8 128 ((Go.bits .and .i32 (x5_5 / 64) 63) % 256))] from rfl) (Reps.one (show Kd.M (Kd.int .u8) _ _ _ (Go.bits .or .u8 128 ((Go.bits .and .i32 x5_5 63) % 256)) [.int .u8 (Go.bits .or .u8 128 ((Go.bits .and .i32 x5_5 63) % 256))] from rfl) (Reps.none _ _)))))); intro v267 w24 ho25 hb hg_ hnew_; clear hg_ hnew_; (first | rw [← Ny266.out] at ho25 | (simp only [Int.reduceToNat] at ho25; rw [← Ny266.out] at ho25)); have n0_ := Aside0.mk (Kd.R_elder' (by (with_reducible repeat (first | apply Kd.R_alloc | apply Kd.R_drewN | apply Kd.R_drew)); exact HO_3.out) (Kd.R_base ho25) hb); have n1_ := Aside0.mk (Kd.R_lower (Kd.R_new' ho25 (Kd.R_lt (by (with_reducible repeat (first | apply Kd.R_alloc | apply Kd.R_drewN | apply Kd.R_drew)); exact HO_3.out))) (below_size (by repeat (first | (with_reducible first | exact HB.out | apply below_alloc | apply pw_below_drewN | apply below_drew1) | exact HB.out)))); have n2_ := Aside0.mk (below_step (by repeat (first | (with_reducible first | exact HB.out | apply below_alloc | apply pw_below_drewN | apply below_drew1) | exact HB.out)) hb); clear HO_3; clear HB; have HO_3 := n0_; have HO268 := n1_; have HB := n2_; clear n0_ n1_ n2_; clear hb ho25; obtain ⟨Ao27, co27, eo27⟩ := Kd.R_slice HO268.out; subst eo27) | ((with_reducible refine gate_builtin (b := .append) (xs := #[.tmp 15, .tmp 34]) rfl ?_); at_builtin; refine Kd.R_append_rows (Kd.int .u8) (w0 := w) w.heap.size rfl (.tmp 15) (.tmp 34) 28 5 (.int .u8 0) 1 rfl Tryz.underlying28 info5 rfl (by decide) (by omega) u3 x3_1 y266 _ _ _ (fun k_ => some k_ ≠ (.slice Ao27 y266.length co27 : Value).ownBlock) (fun _ => False) rfl rfl ?aO ?aR (fun _ _ h => h) (fun _ h => h.elim) ?aF ?aB ?aS ?aL ?_; (case aR => repeat (first | exact (Kd.R_reads' HO268.out).2.2 | (with_reducible refine Kd.C_alloc ?_ _) | (with_reducible refine Kd.C_drewN ?_ _) | (with_reducible refine Kd.C_drew ?_))); (case aB => exact (by repeat (first | (with_reducible first | exact HB.out | apply below_alloc | apply pw_below_drewN | apply below_drew1) | exact HB.out))); (case aF => exact (fun k_ hk => Kd.fresh' (Kd.R_lt (by (with_reducible repeat (first | apply Kd.R_alloc | apply Kd.R_drewN | apply Kd.R_drew)); exact HO268.out)) k_ hk)); (case aO => exact (by (with_reducible repeat (first | apply Kd.R_alloc | apply Kd.R_drewN | apply Kd.R_drew)); exact Kd.R_mono HO_3.out (fun _ hk => hk.2))); (case aS => exact (below_size (by repeat (first | (with_reducible first | exact HB.out | apply below_alloc | apply pw_below_drewN | apply below_drew1) | exact HB.out)))); (case aL => have := LMc23.out; omega); intro v270 w26 ho hb hg hat; rw [← Ny269.out] at ho; have n0_ := Aside0.mk (Kd.R_after (ok := (fun _ => True)) (by (with_reducible repeat (first | apply Kd.R_alloc | apply Kd.R_drewN | apply Kd.R_drew)); exact HO268.out) hg hat); have n1_ := Aside0.mk (hb); have n2_ := Aside0.mk (ho); clear HO268; clear HB; clear HO_3; have HO268 := n0_; have HB := n1_; have HO271 := n2_; clear n0_ n1_ n2_; clear ho hb hg hat))
            go_roundg kj5
            case measure => have := HK1.out; have := HJ5.out; omega
            case rel => exact ⟨(y269), (wrap64 (x8_1 + 1)), (by first | rfl | (simp; done) | (simp [*]; done)), H', ⟨by have := HK1.out; have := HJ5.out; omega⟩, ⟨by (with_reducible repeat (first | apply Kd.R_alloc | apply Kd.R_drewN | apply Kd.R_drew)); exact Kd.R_mono HO271.out (fun _ hk => trivial)⟩, ⟨by repeat (first | (with_reducible first | exact HB.out | apply below_alloc | apply pw_below_drewN | apply below_drew1) | exact HB.out)⟩⟩
           ·rw [if_neg c23] at H
            exact absurd H (by simp)
     ·rw [if_neg c4] at H
      exact absurd H (by simp)
    ·rw [if_neg c3] at H
     exact absurd H (by simp)
   ·rw [if_neg c2] at H
    have c2b0 : decide (x8_1 < (l0.length : Int)) = false := decide_eq_false c2
    clear c2
    obtain rfl := Option.some.inj H
    go_wp2
    go_ret
    exact ⟨_, by first | rfl | (simp [errW_none, errW_some] <;> rfl) | (simp [*, errW_none, errW_some] <;> rfl), by (with_reducible repeat (first | apply Kd.R_alloc | apply Kd.R_drewN | apply Kd.R_drew)); exact HO_3.out, by repeat (first | (with_reducible first | exact HB.out | apply below_alloc | apply pw_below_drewN | apply below_drew1) | exact HB.out)⟩
end Go.Proofs.YtdambnclbpipdaaGreatDoor.X
namespace Go.Proofs.YtdambnclbpipdaaGreatDoor.En
set_option linter.unusedVariables false
set_option linter.unusedSimpArgs false
open Go.RowKit Go.Proofs.YtdambnclbpipdaaGreatDoorW.PrintWords Go.Proofs.YtdambnclbpipdaaGreatDoor.Hp
def vld (r : Int) : Bool := decide (0 ≤ r ∧ r ≤ 1114111 ∧ (r < 55296 ∨ 57343 < r))
def encv (r : Int) : List Int :=
  if r < 128 then [r] else if r < 2048 then [192 + r / 64, 128 + r % 64]
  else if r < 65536 then [224 + r / 4096, 128 + r / 64 % 64, 128 + r % 64]
  else [240 + r / 262144, 128 + r / 4096 % 64, 128 + r / 64 % 64, 128 + r % 64]
def fixr (r : Int) : Int := if vld r = true then r else 65533
def enc1 (r : Int) : List Int := encv (fixr r)
def enc : List Int → List Int
  | [] => []
  | r :: l => enc1 r ++ enc l
theorem encv_len (r : Int) : 1 ≤ (encv r).length ∧ (encv r).length ≤ 4 := by
  unfold encv; split <;> (try split) <;> (try split) <;> simp
theorem enc_len : ∀ l, l.length ≤ (enc l).length ∧ (enc l).length ≤ 4 * l.length
  | [] => by simp [enc]
  | r :: l => by
    have := enc_len l
    have h := encv_len (fixr r)
    simp only [enc, enc1, List.length_append, List.length_cons]
    omega
theorem enc_append : ∀ a b, enc (a ++ b) = enc a ++ enc b
  | [], b => rfl
  | r :: a, b => by simp [enc, enc_append a b]
theorem fixr_ok (r : Int) : 0 ≤ fixr r ∧ fixr r ≤ 1114111 ∧ vld (fixr r) = true := by
  unfold fixr
  split
  · rename_i h
    have h2 := h
    simp only [vld, decide_eq_true_eq] at h2
    exact ⟨h2.1, h2.2.1, h⟩
  · exact ⟨by decide, by decide, by decide⟩
theorem i32_and63 (x : Int) (h0 : 0 ≤ x) (h1 : x < 2147483648) : Go.bits .and .i32 x 63 = x % 64 := bits_mask .i32 31 (by decide) wraps_i32 6 (by decide) x h0 (by omega)
theorem valid_pure (r : Int) : X.utf_Valid.f r = some (vld r) := by
  unfold X.utf_Valid.f vld
  split
  · split
    · split
      · congr 1; symm; rw [decide_eq_true_eq]; omega
      · congr 1; rw [decide_eq_decide]; omega
    · congr 1; symm; rw [decide_eq_false_iff_not]; omega
  · congr 1; symm; rw [decide_eq_false_iff_not]; omega
theorem j1_pure (k : Nat) (acc : List Int) (r : Int) (l : List Int) (n i : Int) (h0 : 0 ≤ r) (h1 : r ≤ 1114111) (ha : acc.length + 4 < 140737488355328) :
    X.utf_Encode.j1 (k + 1) acc r l n i = X.utf_Encode.l0 k (acc ++ encv r) l n (wrap64 (i + 1)) := by
  simp only [X.utf_Encode.j1, encv]
  split
  · rw [if_pos (by omega), show r % 256 = r by omega]
  · split
    · simp only [Option.bind_some, List.length_cons, List.length_nil]
      rw [if_pos (by omega), u8_or192 _ (by omega) (by omega), i32_and63 r h0 (by omega), u8_or128 _ (by omega) (by omega), show r / 64 % 256 = r / 64 by omega, show r % 64 % 256 = r % 64 by omega]
    · split
      · simp only [Option.bind_some, List.length_cons, List.length_nil]
        rw [if_pos (by omega), u8_or224 _ (by omega) (by omega), i32_and63 r h0 (by omega), i32_and63 (r / 64) (by omega) (by omega), u8_or128 _ (by omega) (by omega), u8_or128 _ (by omega) (by omega), show r / 4096 % 256 = r / 4096 by omega, show r % 64 % 256 = r % 64 by omega, show r / 64 % 64 % 256 = r / 64 % 64 by omega]
      · simp only [Option.bind_some, List.length_cons, List.length_nil]
        rw [if_pos (by omega), u8_or240 _ (by omega) (by omega), i32_and63 r h0 (by omega), i32_and63 (r / 64) (by omega) (by omega), i32_and63 (r / 4096) (by omega) (by omega), u8_or128 _ (by omega) (by omega), u8_or128 _ (by omega) (by omega), u8_or128 _ (by omega) (by omega), show r / 262144 % 256 = r / 262144 by omega, show r / 4096 % 64 % 256 = r / 4096 % 64 by omega, show r % 64 % 256 = r % 64 by omega, show r / 64 % 64 % 256 = r / 64 % 64 by omega]
theorem enc_loop (l : List Int) (hl : l.length * 4 ≤ 140737488351232) : ∀ (d i k : Nat) (acc : List Int), l.length - i = d → i ≤ l.length → 2 * d < k → acc.length ≤ 4 * i →
    X.utf_Encode.l0 k acc l (l.length : Int) i = some (acc ++ enc (l.drop i)) := by
  intro d
  induction d with
  | zero =>
    intro i k acc hd hi hk ha
    obtain ⟨k, rfl⟩ : ∃ q, k = q + 1 := ⟨k - 1, by omega⟩
    simp only [X.utf_Encode.l0]
    rw [if_neg (by omega), List.drop_eq_nil_of_le (by omega)]
    simp [enc]
  | succ d ih =>
    intro i k acc hd hi hk ha
    obtain ⟨k, rfl⟩ : ∃ q, k = q + 2 := ⟨k - 2, by omega⟩
    have hlt : i < l.length := by omega
    simp only [X.utf_Encode.l0]
    rw [if_pos (by omega), if_pos (by omega), if_pos (by omega), Ux.rd_at l i hlt, valid_pure]
    simp only [Option.bind_some]
    have hw : wrap64 ((i : Int) + 1) = ((i + 1 : Nat) : Int) := by unfold wrap64; omega
    have hf := fixr_ok l[i]
    have e : (if vld l[i] = true then X.utf_Encode.j1 (k + 1) acc l[i] l (l.length : Int) i else X.utf_Encode.j1 (k + 1) acc 65533 l (l.length : Int) i) = X.utf_Encode.j1 (k + 1) acc (fixr l[i]) l (l.length : Int) i := by
      unfold fixr
      split <;> rfl
    rw [e, j1_pure k acc _ l _ _ hf.1 hf.2.1 (by omega), hw]
    have hn := encv_len (fixr l[i])
    rw [ih (i + 1) k _ (by omega) (by omega) (by omega) (by rw [List.length_append]; omega), List.drop_eq_getElem_cons hlt]
    simp [enc, enc1]
theorem enc_pure (l : List Int) (hl : l.length * 4 ≤ 140737488351232) : X.utf_Encode.f (2 * l.length + 1) l = some (enc l) := by
  have := enc_loop l hl l.length 0 (2 * l.length + 1) [] (by omega) (by omega) (by omega) (by simp)
  simpa [X.utf_Encode.f] using this
theorem enc_byte (l : List Int) : Ux.Bytes (enc l) := by
  induction l with
  | nil => simp [enc, Ux.Bytes]
  | cons r l ih =>
    intro x hx
    simp only [enc] at hx
    rcases List.mem_append.1 hx with hx | hx
    · have hf := fixr_ok r
      unfold enc1 encv at hx
      split at hx
      · simp at hx; omega
      · split at hx
        · simp at hx; omega
        · split at hx <;> simp at hx <;> omega
    · exact ih x hx
end Go.Proofs.YtdambnclbpipdaaGreatDoor.En
namespace Go.Proofs.YtdambnclbpipdaaGreatDoor.Fm
set_option linter.unusedVariables false
set_option linter.unusedSimpArgs false
open Go.RowKit Go.Proofs.YtdambnclbpipdaaGreatDoorW.PrintWords Go.Proofs.YtdambnclbpipdaaGreatDoor.Hp
theorem nodup_inj : ∀ {js : List Nat} {k l : Nat}, js.Nodup → (hk : k < js.length) → (hl : l < js.length) → js[k] = js[l] → k = l
  | j :: js, 0, 0, _, _, _, _ => rfl
  | j :: js, 0, l + 1, h, _, hl, e => by
    have e : j = js[l]'(by simpa using hl) := by simpa using e
    exact absurd (show j ∈ js by rw [e]; exact List.getElem_mem _) (List.nodup_cons.1 h).1
  | j :: js, k + 1, 0, h, hk, _, e => by
    have e : js[k]'(by simpa using hk) = j := by simpa using e
    exact absurd (show j ∈ js by rw [← e]; exact List.getElem_mem _) (List.nodup_cons.1 h).1
  | j :: js, k + 1, l + 1, h, hk, hl, e => congrArg (· + 1) (nodup_inj (List.nodup_cons.1 h).2 (by simpa using hk) (by simpa using hl) (by simpa using e))
section
variable {w0 w w' : World} {L L' M : List Th}
theorem Sep.pick (h : Sep w0 L w) (js : List Nat) (hnd : js.Nodup) (hL : ∀ (k : Nat) (T : Th), L'[k]? = some T → ∃ i, js[k]? = some i ∧ L[i]? = some T) : Sep w0 L' w := by
  obtain ⟨ok, h1, h2, h3, h4⟩ := h
  refine ⟨fun k b => ∃ i, js[k]? = some i ∧ ok i b, fun k T hT => ?_, fun k l b hkl hk hl => ?_, fun k b hk => ?_, h4⟩
  · obtain ⟨i, hi, hTi⟩ := hL k T hT
    have e : (fun b => ∃ i, js[k]? = some i ∧ ok i b) = ok i := by
      funext b
      exact propext ⟨fun ⟨i', hi', hb⟩ => by rw [hi] at hi'; cases hi'; exact hb, fun hb => ⟨i, hi, hb⟩⟩
    show T.P (fun b => ∃ i, js[k]? = some i ∧ ok i b) w
    rw [e]
    exact h1 i T hTi
  · obtain ⟨i, hi, hbi⟩ := hk
    obtain ⟨j, hj, hbj⟩ := hl
    refine h2 i j b (fun e => hkl ?_) hbi hbj
    subst e
    obtain ⟨hk1, hk2⟩ := List.getElem?_eq_some_iff.1 hi
    obtain ⟨hl1, hl2⟩ := List.getElem?_eq_some_iff.1 hj
    exact nodup_inj hnd hk1 hl1 (hk2.trans hl2.symm)
  · obtain ⟨i, -, hb⟩ := hk
    exact h3 i b hb
theorem Sep.head (h : Sep w0 L w) (n : Nat) : Sep w0 (L.take n) w := by
  obtain ⟨ok, h1, h2, h3, h4⟩ := h
  refine ⟨ok, fun k T hT => h1 k T ?_, h2, h3, h4⟩
  rw [List.getElem?_take] at hT
  split at hT
  · exact hT
  · cases hT
end
theorem perm_lift {α β : Type} (f : α → β) : ∀ {m l' : List β}, m.Perm l' → ∀ l : List α, l.map f = m → ∃ z : List α, z.Perm l ∧ z.map f = l' := by
  intro m l' h
  induction h with
  | nil => intro l hl; exact ⟨l, .refl _, hl⟩
  | cons x _ ih =>
    intro l hl
    cases l with
    | nil => simp at hl
    | cons y t =>
      obtain ⟨h1, h2⟩ := List.cons.inj hl
      obtain ⟨z, hz, e⟩ := ih t h2
      exact ⟨y :: z, hz.cons y, by rw [List.map_cons, e, h1]⟩
  | swap x y t =>
    intro l hl
    match l, hl with
    | a :: b :: r, hl =>
      obtain ⟨h1, h2⟩ := List.cons.inj hl
      obtain ⟨h3, h4⟩ := List.cons.inj h2
      exact ⟨b :: a :: r, .swap _ _ _, by rw [List.map_cons, List.map_cons, h1, h3, h4]⟩
  | trans _ _ ih1 ih2 =>
    intro l hl
    obtain ⟨z1, p1, e1⟩ := ih1 l hl
    obtain ⟨z2, p2, e2⟩ := ih2 z1 e1
    exact ⟨z2, p2.trans p1, e2⟩
theorem Sep.init_ {w0 w : World} {L : List Th} (h : Sep w0 L w) (L' : List Th) (T : Th) (e : L = L' ++ [T]) : Sep w0 L' w := (e ▸ h).init
theorem Sep.perm {w0 w : World} {L L' : List Th} (h : Sep w0 L w) (hp : L.Perm L') : Sep w0 L' w := by
  obtain ⟨z, hz, e⟩ := perm_lift Prod.fst hp L.zipIdx (by simp)
  have hnd : (z.map Prod.snd).Nodup := (hz.map Prod.snd).nodup_iff.2 (by rw [List.zipIdx_map_snd]; exact List.nodup_range')
  refine h.pick (z.map Prod.snd) hnd fun k T hT => ?_
  rw [← e, List.getElem?_map] at hT
  cases hk : z[k]? with
  | none => rw [hk] at hT; cases hT
  | some q =>
    rw [hk] at hT
    obtain rfl : q.1 = T := Option.some.inj hT
    have hm : q ∈ L.zipIdx := hz.mem_iff.1 (List.mem_of_getElem? hk)
    refine ⟨q.2, by rw [List.getElem?_map, hk]; rfl, ?_⟩
    obtain ⟨T, i⟩ := q
    have := List.mem_zipIdx_iff_getElem?.1 hm
    simpa using this
theorem at3 {α : Type} (a b c : α) (M r : List α) (x : α) : (a :: b :: c :: (M ++ x :: r))[M.length + 3]? = some x := by simp
theorem set3 {α : Type} (a b c : α) (M r : List α) (x y : α) : (a :: b :: c :: (M ++ x :: r)).set (M.length + 3) y = a :: b :: c :: (M ++ y :: r) := by simp
theorem at4 {α : Type} (a b c : α) (M r : List α) (x y : α) : (a :: b :: c :: (M ++ x :: y :: r))[M.length + 4]? = some y := by
  have := at3 a b c (M ++ [x]) r y
  simp at this ⊢
theorem at5 {α : Type} (a b c : α) (M r : List α) (x y z : α) : (a :: b :: c :: (M ++ x :: y :: z :: r))[M.length + 5]? = some z := by simp
theorem take5 {α : Type} (a b c : α) (M : List α) (x y z : α) : (a :: b :: c :: (M ++ x :: y :: [z])).take (M.length + 5) = a :: b :: c :: (M ++ x :: [y]) := by
  show a :: b :: c :: List.take (M.length + 2) (M ++ x :: y :: [z]) = _
  rw [show M ++ x :: y :: [z] = (M ++ x :: [y]) ++ [z] by simp, List.take_left' (by simp)]
theorem take4 {α : Type} (a b c : α) (M : List α) (x y : α) : (a :: b :: c :: (M ++ x :: [y])).take (M.length + 4) = a :: b :: c :: (M ++ [x]) := by
  show a :: b :: c :: List.take (M.length + 1) (M ++ x :: [y]) = _
  rw [show M ++ x :: [y] = (M ++ [x]) ++ [y] by simp, List.take_left' (by simp)]
def blkT (g : Nat) (cells : Array Value) (t : TypeId) : Th :=
  ⟨fun ok w => ok g ∧ w.heap[g]? = some (.cells cells t (0, 0)), fun h hm => ⟨h.1, (hm g h.1 (blk_lt h.2)).trans h.2⟩, fun h => ⟨⟨h.1, blk_lt h.2⟩, h.2⟩⟩
section
variable {w0 w w' : World} {L : List Th} {g : Nat} {cells cells' : Array Value} {t : TypeId}
theorem Sep.blk (h : Sep w0 L w) (i : Nat) (hi : L[i]? = some (blkT g cells t)) : w.heap[g]? = some (.cells cells t (0, 0)) ∧ w0.heap.size ≤ g := by
  obtain ⟨ok, h1, h2, _⟩ := h.op i _ hi
  exact ⟨h1.2, h2 g h1.1⟩
theorem Sep.blk_chg (h : Sep w0 L w) (i : Nat) (hi : L[i]? = some (blkT g cells t)) (hc : w'.heap[g]? = some (.cells cells' t (0, 0))) (hch : Chg (fun b => b = g) w w') :
    Sep w0 (L.set i (blkT g cells' t)) w' := by
  obtain ⟨ok, h1, h2, h3⟩ := h.op i _ hi
  exact h3 w' (blkT g cells' t) ok ⟨h1.1, hc⟩ (fun b hb => .inl hb) (hch.mono (fun k _ hk => by rw [hk]; exact h1.1))
theorem Sep.blk_set (h : Sep w0 L w) (i : Nat) (hi : L[i]? = some (blkT g cells t)) (j : Nat) (u : Value) (hc : cells' = cells.setIfInBounds j u) : Sep w0 (L.set i (blkT g cells' t)) (w.setCell ⟨g, j, none⟩ u) := by
  subst hc
  exact h.blk_chg i hi (Go.Proofs.YtdambnclbpipdaaGreatDoorW.PrintWords.blk_set (h.blk i hi).1 j u) ((Chg.refl (fun b => b = g) w).setCell (p := ⟨g, j, none⟩) (.inl rfl) u)
theorem Sep.blk_new (h : Sep w0 L w) (cells : Array Value) (t : TypeId) : Sep w0 (L ++ [blkT w.heap.size cells t]) (w.alloc (.cells cells t)) :=
  h.new (blkT w.heap.size cells t) (ok := fun b => b = w.heap.size) ⟨rfl, heap_alloc_new w _⟩ (fun b hb => by rw [hb]; exact Nat.le_refl _) (below_alloc (Below.refl _ _) _)
theorem Sep.rows {α : Type} {d : Kd α} {e base : Nat} {A : Option Addr} {m c : Nat} {xs : List α} (h : Sep w0 L w) (i : Nat) (hi : L[i]? = some (rowT d e base (.slice A m c) xs)) : m = xs.length ∧ m ≤ c ∧ d.C w A m xs := by
  obtain ⟨ok, h1⟩ := h.one i _ hi
  have := Kd.R_reads' (show d.R e w base ok (.slice A m c) xs from h1)
  exact ⟨this.1, this.2.1, this.1 ▸ this.2.2⟩
theorem Sep.let_go {α : Type} (d : Kd α) (e base : Nat) {T : Th} (h : Sep w0 L w) (i : Nat) (hi : L[i]? = some T) : Sep w0 (L.set i (rowT d e base (.slice none 0 0) [])) w := by
  obtain ⟨ok, h1, h2, h3⟩ := h.op i T hi
  exact h3 w (rowT d e base (.slice none 0 0) []) (fun _ => False) (Kd.R_nil d e w base _) (fun _ hb => hb.elim) (Chg.refl ok w)
theorem Sep.newR {α : Type} {d : Kd α} {e : Nat} (h : Sep w0 L w) {v : Value} {xs : List α} (p1 : d.R e w' w.heap.size (fun _ => True) v xs) (p2 : Below w.heap.size w w') : Sep w0 (L ++ [rowT d e w0.heap.size v xs]) w' :=
  h.new (rowT d e w0.heap.size v xs) (ok := fun b => w.heap.size ≤ b) (Kd.R_lower (Kd.R_mono (Kd.R_bound p1) (fun k hk => hk.2.1)) h.below.size) (fun _ hb => hb) p2
end
end Go.Proofs.YtdambnclbpipdaaGreatDoor.Fm
namespace Go.Proofs.YtdambnclbpipdaaGreatDoor.Va
set_option linter.unusedVariables false
set_option linter.unusedSimpArgs false
open Go.RowKit Go.Proofs.YtdambnclbpipdaaGreatDoorW.PrintWords Go.Proofs.YtdambnclbpipdaaGreatDoor.Hp
def clsT : List (Int × Int × Int) := [(768, 788, 230), (789, 789, 232), (790, 793, 220), (794, 794, 232), (795, 795, 216), (796, 800, 220), (801, 802, 202), (803, 806, 220), (807, 808, 202), (809, 819, 220), (820, 824, 1), (825, 828, 220), (829, 836, 230), (837, 837, 240), (838, 838, 230), (839, 841, 220), (842, 844, 230), (845, 846, 220), (848, 850, 230), (851, 854, 220), (855, 855, 230), (8400, 8401, 230), (12441, 12442, 8)]
def prsT : List (Int × Int × Int) := [(469, 220, 772), (470, 252, 772), (832, 768, 0), (833, 769, 0), (835, 787, 0), (836, 776, 769), (902, 913, 769), (912, 970, 769), (940, 945, 769), (943, 953, 769), (970, 953, 776), (972, 959, 769), (7691, 100, 775), (7693, 100, 803), (7777, 115, 775), (7779, 115, 803), (7785, 7779, 775), (7841, 97, 803), (7844, 194, 769), (7845, 226, 769), (7863, 7841, 774), (7865, 101, 803), (7879, 7865, 770), (8049, 940, 0), (8115, 945, 837), (8486, 937, 0), (8490, 75, 0), (8491, 197, 0), (8800, 61, 824), (12364, 12363, 12441), (12497, 12495, 12442)]
def mksT : List Int := [768, 769, 770, 771, 772, 774, 775, 776, 778, 779, 780, 807, 808]
def cells3 (l : List (Int × Int × Int)) : List Value := l.flatMap fun p => [.int .i32 p.1, .int .i32 p.2.1, .int .i32 p.2.2]
def G (W : World) : Prop := W.rangeAt 0 0 (cells3 clsT) ∧ W.rangeAt 1 0 (cells3 prsT) ∧ W.rangeAt 2 0 (nums .i32 mksT)
theorem range_below {w W : World} {b o : Nat} {cs : List Value} (h : w.rangeAt b o cs) (hb : Below w.heap.size w W) : W.rangeAt b o cs := fun j v hv => (hb.cell (World.block_lt_of_cell? w _ (h j v hv))).trans (h j v hv)
theorem G.below {w W : World} (h : G w) (hb : Below w.heap.size w W) : G W := ⟨range_below h.1 hb, range_below h.2.1 hb, range_below h.2.2 hb⟩
def clsF (r : Int) : List (Int × Int × Int) → Int
  | [] => 0
  | p :: t => if p.1 ≤ r ∧ r ≤ p.2.1 then p.2.2 else clsF r t
def cls (r : Int) : Int := clsF r clsT
theorem infoC : (Tryz.prog.info? 237).map (·.size) = some (cells3 clsT).length := by kernel_rfl
theorem idxC (i : Nat) (hi : i < 23) : ∀ W : World, (Instr.index 237 (.agg (cells3 clsT).toArray) (.int .i64 (i : Int))).run Tryz.prog W = .ok (.agg #[.int .i32 (clsT.getD i (0, 0, 0)).1, .int .i32 (clsT.getD i (0, 0, 0)).2.1, .int .i32 (clsT.getD i (0, 0, 0)).2.2]) W := by
  intro W
  match i, hi with
  | 0, _ => exact (show _ = _ by kernel_rfl)
  | 1, _ => exact (show _ = _ by kernel_rfl)
  | 2, _ => exact (show _ = _ by kernel_rfl)
  | 3, _ => exact (show _ = _ by kernel_rfl)
  | 4, _ => exact (show _ = _ by kernel_rfl)
  | 5, _ => exact (show _ = _ by kernel_rfl)
  | 6, _ => exact (show _ = _ by kernel_rfl)
  | 7, _ => exact (show _ = _ by kernel_rfl)
  | 8, _ => exact (show _ = _ by kernel_rfl)
  | 9, _ => exact (show _ = _ by kernel_rfl)
  | 10, _ => exact (show _ = _ by kernel_rfl)
  | 11, _ => exact (show _ = _ by kernel_rfl)
  | 12, _ => exact (show _ = _ by kernel_rfl)
  | 13, _ => exact (show _ = _ by kernel_rfl)
  | 14, _ => exact (show _ = _ by kernel_rfl)
  | 15, _ => exact (show _ = _ by kernel_rfl)
  | 16, _ => exact (show _ = _ by kernel_rfl)
  | 17, _ => exact (show _ = _ by kernel_rfl)
  | 18, _ => exact (show _ = _ by kernel_rfl)
  | 19, _ => exact (show _ = _ by kernel_rfl)
  | 20, _ => exact (show _ = _ by kernel_rfl)
  | 21, _ => exact (show _ = _ by kernel_rfl)
  | 22, _ => exact (show _ = _ by kernel_rfl)
  | n + 23, h => exact absurd h (by omega)
theorem cls_small : ∀ p, p ∈ clsT → 0 ≤ p.2.2 ∧ p.2.2 ≤ 240 := by decide
set_option maxRecDepth 100000 in
set_option maxHeartbeats 1000000 in
theorem ClassP (w : World) (hG : G w) (r : Int) : Calls Tryz.prog 170 #[.int .i32 r] w fun e w' => e = .returned (.int .i64 (cls r)) ∧ Below w.heap.size w w' := by
  obtain ⟨tl, htl⟩ : ∃ tl, tl = cells3 clsT := ⟨_, rfl⟩
  have HT := Aside0.mk (show w.rangeAt 0 0 tl by rw [htl]; exact hG.1)
  have HI := Aside0.mk (show (Tryz.prog.info? 237).map (·.size) = some tl.length by rw [htl]; exact infoC)
  have HX := Aside0.mk (show ∀ i : Nat, i < 23 → ∀ W : World, (Instr.index 237 (.agg tl.toArray) (.int .i64 (i : Int))).run Tryz.prog W = .ok (.agg #[.int .i32 (clsT.getD i (0, 0, 0)).1, .int .i32 (clsT.getD i (0, 0, 0)).2.1, .int .i32 (clsT.getD i (0, 0, 0)).2.2]) W by rw [htl]; exact idxC)
  clear hG htl
  have hu43 := Tryz.underlying236
  go_enter Tryz.func170, Tryz.ntmps170
  go_wp2_with (refine wpList_load_mid rfl 237 (.global 0) rfl 0 0 rfl tl _ HT.out Tryz.underlying237 rfl HI.out ?_)
  go_loopw [6] (fun iv wr => ∃ i : Nat, i ≤ 23 ∧ iv = .int .i64 i ∧ Aside0 (cls r = clsF r (clsT.drop i)) ∧ Aside0 (Below w.heap.size w wr)) (fun iv _ => 23 - (intOf iv).toNat)
  case atStart => exact ⟨0, Nat.zero_le _, rfl, ⟨rfl⟩, ⟨Below.refl _ _⟩⟩
  case round =>
    obtain ⟨i, hi, rfl, HE, HB⟩ := hrel
    by_cases hlt : i < 23
    · have hd : decide ((i : Int) < 23) = true := decide_eq_true (by omega)
      have hix := HX.out i hlt
      have he := HE.out
      have hmem : clsT.getD i (0, 0, 0) ∈ clsT := by
        have h1 : i < clsT.length := hlt
        rw [List.getD_eq_getElem?_getD, List.getElem?_eq_getElem h1]
        exact List.getElem_mem h1
      have hsm := cls_small _ hmem
      have hdr : clsT.drop i = clsT.getD i (0, 0, 0) :: clsT.drop (i + 1) := by
        have h1 : i < clsT.length := hlt
        rw [List.drop_eq_getElem_cons h1, List.getD_eq_getElem?_getD, List.getElem?_eq_getElem h1]
        rfl
      rw [hdr, clsF] at he
      obtain ⟨⟨a, b, c⟩, hp⟩ : ∃ p, p = clsT.getD i (0, 0, 0) := ⟨_, rfl⟩
      rw [← hp] at hix he hsm
      simp only at hix he hsm
      clear hp hmem hdr
      have NB := Aside0.mk (show Below w.heap.size w (wr.alloc (.cells #[.int .i32 a, .int .i32 b, .int .i32 c] 236)) from below_then HB.out HB.out.size (below_alloc (Below.refl _ _) _))
      by_cases ha : a ≤ r
      · have ha1 : decide (a ≤ r) = true := decide_eq_true ha
        by_cases hb : r ≤ b
        · have hb1 : decide (r ≤ b) = true := decide_eq_true hb
          rw [if_pos ⟨ha, hb⟩] at he
          have HE1 := Aside0.mk he
          have hw3 : wrap64 c = c := by unfold wrap64; omega
          clear he
          go_wp2
          go_ret
          exact ⟨by rw [HE1.out]; rfl, NB.out⟩
        · have hb1 : decide (r ≤ b) = false := decide_eq_false hb
          rw [if_neg (fun h => hb h.2)] at he
          have HE1 := Aside0.mk he
          clear he
          go_wp2
          go_roundw
          case rel => exact ⟨i + 1, by omega, by go_num, HE1, NB⟩
          case measure => simp [intOf]; omega
      · have ha1 : decide (a ≤ r) = false := decide_eq_false ha
        rw [if_neg (fun h => ha h.1)] at he
        have HE1 := Aside0.mk he
        clear he
        go_wp2
        go_roundw
        case rel => exact ⟨i + 1, by omega, by go_num, HE1, NB⟩
        case measure => simp [intOf]; omega
    · have hd : decide ((i : Int) < 23) = false := decide_eq_false (by omega)
      obtain rfl : i = 23 := by omega
      have he := HE.out
      have HE1 := Aside0.mk (show cls r = 0 from he)
      clear he
      go_wp2
      go_ret
      exact ⟨by rw [HE1.out]; rfl, HB.out⟩
end Go.Proofs.YtdambnclbpipdaaGreatDoor.Va
namespace Go.Proofs.YtdambnclbpipdaaGreatDoor.X
set_option linter.unusedVariables false
set_option linter.unusedSimpArgs false
open Go.RowKit Go.Proofs.YtdambnclbpipdaaGreatDoorW.PrintWords
end Go.Proofs.YtdambnclbpipdaaGreatDoor.X
namespace Go.Proofs.YtdambnclbpipdaaGreatDoor.Na
set_option linter.unusedVariables false
set_option linter.unusedSimpArgs false
open Go.Proofs.YtdambnclbpipdaaGreatDoor.Va
def Sw (a b : List Int) : Prop := ∀ c : Int, a.filter (fun x => cls x == c) = b.filter (fun x => cls x == c)
def Srt (a : List Int) : Prop := a.Pairwise (fun x y => cls x ≤ cls y)
theorem Sw.refl (a : List Int) : Sw a a := fun _ => rfl
theorem Sw.symm {a b : List Int} (h : Sw a b) : Sw b a := fun c => (h c).symm
theorem Sw.trans {a b c : List Int} (h : Sw a b) (k : Sw b c) : Sw a c := fun d => (h d).trans (k d)
theorem Sw.append {a b c d : List Int} (h : Sw a b) (k : Sw c d) : Sw (a ++ c) (b ++ d) := fun e => by rw [List.filter_append, List.filter_append, h e, k e]
theorem Sw.comm {a b : List Int} (h : ∀ x ∈ a, ∀ y ∈ b, cls x ≠ cls y) : Sw (a ++ b) (b ++ a) := fun c => by
  rw [List.filter_append, List.filter_append]
  by_cases hc : ∃ x ∈ a, cls x = c
  · obtain ⟨x, hx, rfl⟩ := hc
    have : b.filter (fun y => cls y == cls x) = [] := List.filter_eq_nil_iff.2 (fun y hy => by have := h x hx y hy; simp; exact fun e => this e.symm)
    rw [this]
    simp
  · have : a.filter (fun y => cls y == c) = [] := List.filter_eq_nil_iff.2 (fun y hy => by simp; exact fun e => hc ⟨y, hy, e⟩)
    rw [this]
    simp
theorem Sw.mem {a b : List Int} (h : Sw a b) (x : Int) : x ∈ a ↔ x ∈ b := by
  have := h (cls x)
  have e : ∀ l : List Int, x ∈ l ↔ x ∈ l.filter (fun y => cls y == cls x) := fun l => by simp
  rw [e a, e b, this]
theorem filt_len {a b : List Int} : ∀ (n : Nat), a.length ≤ n → Sw a b → a.length ≤ b.length := by
  intro n
  induction n generalizing a b with
  | zero => intro h _; omega
  | succ n ih =>
    intro h hs
    cases a with
    | nil => simp
    | cons x t =>
      have hx : x ∈ b := (hs.mem x).1 (List.mem_cons_self ..)
      have h1 := hs (cls x)
      have ea : (x :: t).length = ((x :: t).filter (fun y => cls y == cls x)).length + ((x :: t).filter (fun y => !(cls y == cls x))).length := by
        rw [← List.length_append]
        exact (List.filter_append_perm _ _).length_eq.symm
      have eb : b.length = (b.filter (fun y => cls y == cls x)).length + (b.filter (fun y => !(cls y == cls x))).length := by
        rw [← List.length_append]
        exact (List.filter_append_perm _ _).length_eq.symm
      have hs2 : Sw ((x :: t).filter (fun y => !(cls y == cls x))) (b.filter (fun y => !(cls y == cls x))) := fun c => by
        rw [List.filter_filter, List.filter_filter]
        by_cases hc : c = cls x
        · have e : ∀ l : List Int, l.filter (fun a => (cls a == c) && !(cls a == cls x)) = [] := fun l => List.filter_eq_nil_iff.2 (fun y _ => by rw [hc]; simp)
          rw [e, e]
        · have e : ∀ l : List Int, l.filter (fun a => (cls a == c) && !(cls a == cls x)) = l.filter (fun a => cls a == c) := fun l => List.filter_congr (fun y _ => by
            by_cases hy : cls y = c
            · simp [hy, hc]
            · simp [hy])
          rw [e, e]
          exact hs c
      have hlt : ((x :: t).filter (fun y => !(cls y == cls x))).length ≤ n := by
        have : ((x :: t).filter (fun y => !(cls y == cls x))) = t.filter (fun y => !(cls y == cls x)) := by simp [List.filter_cons]
        rw [this]
        have := List.length_filter_le (fun y => !(cls y == cls x)) t
        simp at h
        omega
      have := ih hlt hs2
      rw [ea, eb, h1]
      omega
theorem Sw.length {a b : List Int} (h : Sw a b) : a.length = b.length := Nat.le_antisymm (filt_len _ (Nat.le_refl _) h) (filt_len _ (Nat.le_refl _) h.symm)
theorem Srt.append {a b : List Int} (ha : Srt a) (hb : Srt b) (h : ∀ x ∈ a, ∀ y ∈ b, cls x ≤ cls y) : Srt (a ++ b) := List.pairwise_append.2 ⟨ha, hb, h⟩
theorem unique : ∀ (a b : List Int), Srt a → Srt b → Sw a b → a = b
  | [], b, _, _, h => by
    cases b with
    | nil => rfl
    | cons y t => exact absurd ((h.mem y).2 (List.mem_cons_self ..)) (by simp)
  | x :: a, [], _, _, h => absurd ((h.mem x).1 (List.mem_cons_self ..)) (by simp)
  | x :: a, y :: b, ha, hb, h => by
    have ha1 := List.pairwise_cons.1 ha
    have hb1 := List.pairwise_cons.1 hb
    have h1 : cls y ≤ cls x := by
      rcases List.mem_cons.1 ((h.mem x).1 (List.mem_cons_self ..)) with e | e
      · rw [e]; exact Int.le_refl _
      · exact hb1.1 x e
    have h2 : cls x ≤ cls y := by
      rcases List.mem_cons.1 ((h.mem y).2 (List.mem_cons_self ..)) with e | e
      · rw [e]; exact Int.le_refl _
      · exact ha1.1 y e
    have hk : cls x = cls y := Int.le_antisymm h2 h1
    have h3 := h (cls x)
    rw [List.filter_cons, List.filter_cons, hk] at h3
    simp only [beq_self_eq_true, if_true] at h3
    obtain ⟨rfl, h4⟩ := List.cons.inj h3
    have ht : Sw a b := fun c => by
      have := h c
      rw [List.filter_cons, List.filter_cons] at this
      by_cases hc : cls x = c
      · have hc' : (cls x == c) = true := beq_iff_eq.2 hc
        simp only [hc', if_true] at this
        exact (List.cons.inj this).2
      · have hc' : (cls x == c) = false := beq_eq_false_iff_ne.2 hc
        simp only [hc', Bool.false_eq_true, if_false] at this
        exact this
    rw [unique a b ha1.2 hb1.2 ht]
def ins (x : Int) : List Int → List Int
  | [] => [x]
  | y :: r => if cls x ≠ 0 ∧ cls x < cls y then y :: ins x r else x :: y :: r
def ordR (l : List Int) : List Int := l.foldl (fun acc x => ins x acc) []
def ordL (l : List Int) : List Int := (ordR l).reverse
theorem ins_zero {x : Int} (h : cls x = 0) (r : List Int) : ins x r = x :: r := by
  cases r with
  | nil => rfl
  | cons y r => rw [ins, if_neg (fun k => k.1 h)]
theorem cls_nonneg (x : Int) : 0 ≤ cls x := by
  have key : ∀ l : List (Int × Int × Int), (∀ p ∈ l, 0 ≤ p.2.2) → 0 ≤ clsF x l := by
    intro l
    induction l with
    | nil => intro _; exact Int.le_refl _
    | cons p t ih =>
      intro h
      rw [clsF]
      split
      · exact h p (List.mem_cons_self ..)
      · exact ih (fun q hq => h q (List.mem_cons_of_mem _ hq))
  exact key clsT (fun p hp => (cls_small p hp).1)
theorem ins_append (x : Int) {r s : List Int} (hs : s = [] ∨ ∃ z t, s = z :: t ∧ cls z = 0) : ins x (r ++ s) = ins x r ++ s := by
  induction r with
  | nil =>
    rcases hs with rfl | ⟨z, t, rfl, hz⟩
    · rfl
    · have hx := cls_nonneg x
      have hn : ¬ (cls x ≠ 0 ∧ cls x < cls z) := fun k => by have := k.2; omega
      show ins x (z :: t) = x :: z :: t
      rw [ins, if_neg hn]
  | cons y r ih =>
    rw [List.cons_append, ins, ins, ih]
    split <;> rfl
theorem fold_append {s : List Int} (hs : s = [] ∨ ∃ z t, s = z :: t ∧ cls z = 0) : ∀ (l r : List Int), l.foldl (fun acc x => ins x acc) (r ++ s) = l.foldl (fun acc x => ins x acc) r ++ s
  | [], _ => rfl
  | x :: l, r => by rw [List.foldl_cons, List.foldl_cons, ins_append x hs, fold_append hs l]
theorem ordL_starter (a b : List Int) {z : Int} (hz : cls z = 0) : ordL (a ++ z :: b) = ordL a ++ z :: ordL b := by
  unfold ordL ordR
  rw [List.foldl_append, List.foldl_cons, ins_zero hz]
  have := fold_append (.inr ⟨z, a.foldl (fun acc x => ins x acc) [], rfl, hz⟩) b []
  rw [List.nil_append] at this
  rw [this, List.reverse_append, List.reverse_cons, List.append_assoc]
  rfl
theorem ins_sw (x : Int) (r : List Int) : Sw (ins x r).reverse (r.reverse ++ [x]) := by
  induction r with
  | nil => exact Sw.refl _
  | cons y r ih =>
    rw [ins]
    split
    · rename_i h
      rw [List.reverse_cons, List.reverse_cons]
      refine (ih.append (Sw.refl [y])).trans ?_
      rw [List.append_assoc, List.append_assoc]
      refine (Sw.refl _).append (Sw.comm (fun p hp q hq => ?_))
      simp at hp hq
      subst hp hq
      omega
    · rw [List.reverse_cons]
      exact Sw.refl _
theorem fold_sw : ∀ (l r : List Int), Sw (l.foldl (fun acc x => ins x acc) r).reverse (r.reverse ++ l)
  | [], r => by rw [List.append_nil]; exact Sw.refl _
  | x :: l, r => by
    rw [List.foldl_cons]
    refine (fold_sw l _).trans ?_
    have := (ins_sw x r).append (Sw.refl l)
    rw [List.append_assoc] at this
    exact this
theorem ordL_sw (l : List Int) : Sw (ordL l) l := by have := fold_sw l []; exact this
theorem ordL_len (l : List Int) : (ordL l).length = l.length := (ordL_sw l).length
theorem ordL_mem (l : List Int) (x : Int) : x ∈ ordL l ↔ x ∈ l := (ordL_sw l).mem x
theorem ins_srt (x : Int) (hx : cls x ≠ 0) (r : List Int) (h : Srt r.reverse) : Srt (ins x r).reverse := by
  induction r with
  | nil => exact List.pairwise_singleton ..
  | cons y r ih =>
    rw [List.reverse_cons] at h
    have h1 := List.pairwise_append.1 h
    rw [ins]
    split
    · rename_i hc
      rw [List.reverse_cons]
      refine Srt.append (ih h1.1) (List.pairwise_singleton ..) (fun p hp q hq => ?_)
      simp at hq
      subst hq
      have := (ins_sw x r).mem p
      rw [this] at hp
      rcases List.mem_append.1 hp with hp | hp
      · exact h1.2.2 p hp q (by simp)
      · simp at hp; subst hp; omega
    · rename_i hc
      rw [List.reverse_cons, List.reverse_cons]
      refine Srt.append h (List.pairwise_singleton ..) (fun p hp q hq => ?_)
      simp at hq
      subst hq
      have hyq : cls y ≤ cls q := by
        by_cases h : cls q < cls y
        · exact absurd ⟨hx, h⟩ hc
        · omega
      rcases List.mem_append.1 hp with hp | hp
      · exact Int.le_trans (h1.2.2 p hp y (by simp)) hyq
      · simp at hp; subst hp; exact hyq
theorem fold_srt : ∀ (l r : List Int), (∀ x ∈ l, cls x ≠ 0) → Srt r.reverse → Srt (l.foldl (fun acc x => ins x acc) r).reverse
  | [], _, _, h => h
  | x :: l, r, hl, h => by
    rw [List.foldl_cons]
    exact fold_srt l _ (fun y hy => hl y (List.mem_cons_of_mem _ hy)) (ins_srt x (hl x (List.mem_cons_self ..)) r h)
theorem ordL_run {l s : List Int} (hl : ∀ x ∈ l, cls x ≠ 0) (hs : Srt s) (h : Sw l s) : ordL l = s :=
  unique _ _ (fold_srt l [] hl List.Pairwise.nil) hs ((ordL_sw l).trans h)
theorem ordL_cut (a b : List Int) (h : b = [] ∨ (∃ z t, b = z :: t ∧ cls z = 0)) : ordL (a ++ b) = ordL a ++ ordL b := by
  rcases h with rfl | ⟨z, t, rfl, hz⟩
  · simp [ordL, ordR]
  · rw [ordL_starter a t hz]
    have := ordL_starter [] t hz
    rw [List.nil_append] at this
    rw [this]
    rfl
end Go.Proofs.YtdambnclbpipdaaGreatDoor.Na
namespace Go.Proofs.YtdambnclbpipdaaGreatDoor.Nc
set_option linter.unusedVariables false
set_option linter.unusedSimpArgs false
open Go.Proofs.YtdambnclbpipdaaGreatDoor.Va Go.Proofs.YtdambnclbpipdaaGreatDoor.Na
theorem set2 (P Q R : List Int) (x y : Int) : ((P ++ x :: (Q ++ y :: R)).set P.length y).set (P.length + 1 + Q.length) x = P ++ y :: (Q ++ x :: R) := by
  rw [List.set_append_right _ _ (Nat.le_refl _), Nat.sub_self, List.set_cons_zero, List.set_append_right _ _ (by omega), show P.length + 1 + Q.length - P.length = Q.length + 1 by omega, List.set_cons_succ, List.set_append_right _ _ (Nat.le_refl _), Nat.sub_self, List.set_cons_zero]
theorem set2' (P Q R : List Int) (x y : Int) : ((P ++ x :: (Q ++ y :: R)).set (P.length + 1 + Q.length) x).set P.length y = P ++ y :: (Q ++ x :: R) := by
  rw [List.set_append_right _ _ (by omega), show P.length + 1 + Q.length - P.length = Q.length + 1 by omega, List.set_cons_succ, List.set_append_right _ _ (Nat.le_refl _), Nat.sub_self, List.set_cons_zero, List.set_append_right _ _ (Nat.le_refl _), Nat.sub_self, List.set_cons_zero]
theorem get_at (P R : List Int) (x : Int) : (P ++ x :: R).getD P.length 0 = x := by simp [List.getD_eq_getElem?_getD]
theorem get_at2 (P Q R : List Int) (x y : Int) : (P ++ x :: (Q ++ y :: R)).getD (P.length + 1 + Q.length) 0 = y := by
  simp [List.getD_eq_getElem?_getD, List.getElem?_append, show ¬ P.length + 1 + Q.length < P.length by omega, show P.length + 1 + Q.length - P.length = Q.length + 1 by omega]
structure WayL (S L : List Int) (x : Int) (R : List Int) : Prop where
  all : S = L ++ R
  less : ∀ r ∈ R, cls x < cls r
theorem WayL.start (S : List Int) (x : Int) : WayL S S x [] := ⟨by simp, by simp⟩
theorem WayL.step {S L R : List Int} {x y : Int} (h : WayL S (L ++ [y]) x R) (hy : cls x < cls y) : WayL S L x (y :: R) :=
  ⟨by rw [h.all]; simp, fun r hr => by rcases List.mem_cons.1 hr with rfl | hr; exact hy; exact h.less r hr⟩
theorem WayL.stop {S L R : List Int} {x : Int} (h : WayL S L x R) (hs : Srt S) (hl : ∀ y ∈ L, cls y ≤ cls x) : Srt (L ++ x :: R) ∧ Sw (S ++ [x]) (L ++ x :: R) := by
  have h1 := h.all
  subst h1
  have hp := List.pairwise_append.1 hs
  refine ⟨List.pairwise_append.2 ⟨hp.1, List.pairwise_cons.2 ⟨fun r hr => Int.le_of_lt (h.less r hr), hp.2.1⟩, fun a ha b hb => ?_⟩, ?_⟩
  · rcases List.mem_cons.1 hb with rfl | hb
    · exact hl a ha
    · exact hp.2.2 a ha b hb
  · rw [List.append_assoc]
    refine (Sw.refl L).append ?_
    have := Sw.comm (a := R) (b := [x]) (fun r hr z hz => by simp at hz; subst hz; have := h.less r hr; omega)
    exact this
theorem last_le {L : List Int} {y x : Int} (hs : Srt (L ++ [y])) (h : cls y ≤ cls x) : ∀ z ∈ L ++ [y], cls z ≤ cls x := fun z hz => by
  rcases List.mem_append.1 hz with hz | hz
  · exact Int.le_trans ((List.pairwise_append.1 hs).2.2 z hz y (by simp)) h
  · simp at hz; subst hz; exact h
theorem srt_left {a b : List Int} (h : Srt (a ++ b)) : Srt a := (List.pairwise_append.1 h).1
theorem srt_right {a b : List Int} (h : Srt (a ++ b)) : Srt b := (List.pairwise_append.1 h).2.1
def K (l : List Int) (i : Nat) : Int := cls (l.getD i 0)
theorem srt_le {l : List Int} (h : Srt l) {i j : Nat} (hij : i ≤ j) (hj : j < l.length) : K l i ≤ K l j := by
  unfold K
  rw [List.getD_eq_getElem?_getD, List.getD_eq_getElem?_getD, List.getElem?_eq_getElem hj, List.getElem?_eq_getElem (by omega)]
  simp only [Option.getD_some]
  rcases Nat.lt_or_ge i j with h1 | h1
  · exact List.pairwise_iff_getElem.1 h i j (by omega) hj h1
  · obtain rfl : i = j := by omega
    exact Int.le_refl _
theorem K_mem {l : List Int} {x : Int} (h : x ∈ l) : ∃ i, i < l.length ∧ cls x = K l i := by
  obtain ⟨i, hi, rfl⟩ := List.mem_iff_getElem.1 h
  exact ⟨i, hi, by unfold K; rw [List.getD_eq_getElem?_getD, List.getElem?_eq_getElem hi]; rfl⟩
theorem K_take {l : List Int} {n i : Nat} (h : i < n) : K (l.take n) i = K l i := by unfold K; simp [List.getD_eq_getElem?_getD, List.getElem?_take, h]
theorem K_drop {l : List Int} {n i : Nat} : K (l.drop n) i = K l (n + i) := by unfold K; simp [List.getD_eq_getElem?_getD, List.getElem?_drop]
theorem one_left {S : List Int} {x : Int} (hs : Srt S) (t : Nat) (h1 : ∀ i, i < t → i < S.length → K S i < cls x) (h2 : ∀ i, t ≤ i → i < S.length → cls x ≤ K S i) : Srt (S.take t ++ x :: S.drop t) ∧ Sw (x :: S) (S.take t ++ x :: S.drop t) := by
  have a1 : ∀ y ∈ S.take t, cls y < cls x := fun y hy => by
    obtain ⟨i, hi, e⟩ := K_mem hy
    rw [List.length_take] at hi
    rw [e, K_take (by omega)]
    exact h1 i (by omega) (by omega)
  have a2 : ∀ y ∈ S.drop t, cls x ≤ cls y := fun y hy => by
    obtain ⟨i, hi, e⟩ := K_mem hy
    rw [List.length_drop] at hi
    rw [e, K_drop]
    exact h2 _ (by omega) (by omega)
  have hsp := hs
  rw [← List.take_append_drop t S] at hsp
  have hp := List.pairwise_append.1 hsp
  refine ⟨List.pairwise_append.2 ⟨hp.1, List.pairwise_cons.2 ⟨a2, hp.2.1⟩, fun a ha b hb => ?_⟩, ?_⟩
  · rcases List.mem_cons.1 hb with rfl | hb
    · exact Int.le_of_lt (a1 a ha)
    · exact hp.2.2 a ha b hb
  · have := (Sw.comm (a := [x]) (b := S.take t) (fun z hz y hy => by simp at hz; subst hz; have := a1 y hy; omega)).append (Sw.refl (S.drop t))
    simpa using this
theorem one_right {S : List Int} {y : Int} (hs : Srt S) (t : Nat) (h1 : ∀ i, i < t → i < S.length → K S i ≤ cls y) (h2 : ∀ i, t ≤ i → i < S.length → cls y < K S i) : Srt (S.take t ++ y :: S.drop t) ∧ Sw (S ++ [y]) (S.take t ++ y :: S.drop t) := by
  have a1 : ∀ z ∈ S.take t, cls z ≤ cls y := fun z hz => by
    obtain ⟨i, hi, e⟩ := K_mem hz
    rw [List.length_take] at hi
    rw [e, K_take (by omega)]
    exact h1 i (by omega) (by omega)
  have a2 : ∀ z ∈ S.drop t, cls y < cls z := fun z hz => by
    obtain ⟨i, hi, e⟩ := K_mem hz
    rw [List.length_drop] at hi
    rw [e, K_drop]
    exact h2 _ (by omega) (by omega)
  exact WayL.stop (S := S) ⟨(List.take_append_drop t S).symm, a2⟩ hs a1
theorem halves {P U V Q X Y : List Int} (h1 : Srt (P ++ U)) (h2 : Srt (V ++ Q)) (hpq : ∀ p ∈ P, ∀ q ∈ Q, cls p ≤ cls q) (hvu : ∀ v ∈ V, ∀ u ∈ U, cls v < cls u) (hx : Srt X) (hxs : Sw (P ++ V) X) (hy : Srt Y) (hys : Sw (U ++ Q) Y) :
    Srt (X ++ Y) ∧ Sw (P ++ U ++ (V ++ Q)) (X ++ Y) := by
  have hp1 := List.pairwise_append.1 h1
  have hp2 := List.pairwise_append.1 h2
  refine ⟨List.pairwise_append.2 ⟨hx, hy, fun a ha b hb => ?_⟩, ?_⟩
  · rcases List.mem_append.1 ((hxs.mem a).2 ha) with ha | ha <;> rcases List.mem_append.1 ((hys.mem b).2 hb) with hb | hb
    · exact hp1.2.2 a ha b hb
    · exact hpq a ha b hb
    · exact Int.le_of_lt (hvu a ha b hb)
    · exact hp2.2.2 a ha b hb
  · refine Sw.trans ?_ (hxs.append hys)
    have h := (Sw.refl P).append ((Sw.comm (a := U) (b := V) (fun u hu v hv => by have := hvu v hv u hu; omega)).append (Sw.refl Q))
    simpa using h
theorem parted {S1 S2 : List Int} {s e : Nat} (h1 : Srt S1) (h2 : Srt S2) (hs : s ≤ S1.length) (he : e ≤ S2.length)
    (g : 0 < s → e < S2.length → K S1 (s - 1) ≤ K S2 e) (b : s < S1.length → 0 < e → K S2 (e - 1) < K S1 s) :
    (∀ p ∈ S1.take s, ∀ q ∈ S2.drop e, cls p ≤ cls q) ∧ (∀ v ∈ S2.take e, ∀ u ∈ S1.drop s, cls v < cls u) := by
  constructor
  · intro p hp q hq
    obtain ⟨i, hi, e1⟩ := K_mem hp
    obtain ⟨j, hj, e2⟩ := K_mem hq
    rw [List.length_take] at hi
    rw [List.length_drop] at hj
    rw [e1, e2, K_take (by omega), K_drop]
    exact Int.le_trans (srt_le h1 (show i ≤ s - 1 by omega) (by omega)) (Int.le_trans (g (by omega) (by omega)) (srt_le h2 (by omega) (by omega)))
  · intro v hv u hu
    obtain ⟨i, hi, e1⟩ := K_mem hv
    obtain ⟨j, hj, e2⟩ := K_mem hu
    rw [List.length_take] at hi
    rw [List.length_drop] at hj
    rw [e1, e2, K_take (by omega), K_drop]
    exact Int.lt_of_le_of_lt (srt_le h2 (show i ≤ e - 1 by omega) (by omega)) (Int.lt_of_lt_of_le (b (by omega) (by omega)) (srt_le h1 (by omega) (by omega)))
end Go.Proofs.YtdambnclbpipdaaGreatDoor.Nc
namespace Go.Proofs.YtdambnclbpipdaaGreatDoor.Nb
set_option linter.unusedVariables false
set_option linter.unusedSimpArgs false
open Go.RowKit Go.Proofs.YtdambnclbpipdaaGreatDoorW.PrintWords Go.Proofs.YtdambnclbpipdaaGreatDoor.Hp Go.Proofs.YtdambnclbpipdaaGreatDoor.Va
def Reg (w : World) (g : Nat) (pre post : List Value) (xs : List Int) : Prop := w.heap[g]? = some (.cells (pre ++ nums .i32 xs ++ post).toArray 21 (0, 0))
section
variable {w w' : World} {g : Nat} {pre post : List Value} {xs : List Int}
theorem Reg.at_ (h : Reg w g pre post xs) (i : Nat) (hi : i < xs.length) : w.cell? ⟨g, pre.length + i, none⟩ = some (.int .i32 (xs.getD i 0)) := by
  rw [blk_cell h]
  rw [List.getElem?_toArray, List.append_assoc, List.getElem?_append_right (by omega), List.getElem?_append_left (by simp [nums]; omega)]
  simp [nums, List.getElem?_eq_getElem hi]
theorem Reg.free (h : Reg w g pre post xs) (i : Nat) : w.frozen? ⟨g, i, none⟩ = false := blk_frozen h i
theorem Reg.set (h : Reg w g pre post xs) (i : Nat) (hi : i < xs.length) (v : Int) : Reg (w.setCell ⟨g, pre.length + i, none⟩ (.int .i32 v)) g pre post (xs.set i v) := by
  refine blk_put h _ _ ?_
  apply Array.ext'
  rw [Array.toList_setIfInBounds]
  simp only []
  rw [List.append_assoc, List.append_assoc, List.set_append_right _ _ (by omega), List.set_append_left _ _ (by simp [nums]; omega)]
  simp [nums, List.map_set]
theorem Reg.chg {S : Nat → Prop} (h : Reg w g pre post xs) (c : Chg S w w') (hg : ¬ S g) : Reg w' g pre post xs := c.heap h hg
theorem Reg.below (h : Reg w g pre post xs) (c : Below w.heap.size w w') : Reg w' g pre post xs := blk_below h c
theorem Reg.drewN (h : Reg w g pre post xs) (n : Nat) : Reg (w.drewN n) g pre post xs := h
theorem Reg.drew (h : Reg w g pre post xs) : Reg w.drew g pre post xs := h
theorem Reg.lt (h : Reg w g pre post xs) : g < w.heap.size := blk_lt h
theorem Reg.of_row {base n c : Nat} {ok : Nat → Prop} {v : Value} (h : Kd.R (Kd.int .i32) 21 w base ok v xs) : (xs = [] ∧ ∃ n, v = .slice none n 0 ∧ n = 0) ∨ ∃ g cap post, v = .slice (some ⟨g, 0, none⟩) xs.length cap ∧ xs.length ≤ cap ∧ cap ≤ maxLen ∧ cap = xs.length + post.length ∧ base ≤ g ∧ Reg w g [] post xs := by
  obtain ⟨_, inner, ⟨hl, ho⟩, hr⟩ := h
  have hin : inner = nums .i32 xs := by
    refine List.ext_getElem (by rw [hr.1]; simp only [nums, List.length_map]; exact Nat.mul_one _) fun i h1 h2 => ?_
    have hi : i < xs.length := by simpa [nums] using h2
    have := hr.2 i xs[i] (List.getElem?_eq_getElem hi)
    have e : (List.take 1 (List.drop (i * 1) inner)) = [.int .i32 xs[i]] := this
    rw [Nat.mul_one, List.drop_eq_getElem_cons h1, List.take_succ_cons, List.take_zero] at e
    rw [(List.cons.inj e).1]
    simp [nums]
  rcases ho with ⟨rfl, h0⟩ | ⟨g, cap, cur, rfl, hb, hh, hnc, hcm, hcs, ht⟩
  · exact .inl ⟨List.eq_nil_of_length_eq_zero h0, 0, rfl, rfl⟩
  · refine .inr ⟨g, cap, cur.toList.drop xs.length, rfl, hnc, hcm, ?_, hb, ?_⟩
    · have : cur.size = cap * 1 := hcs
      simp; omega
    · have e : cur.toList.take xs.length = nums .i32 xs := by
        have : cur.toList.take (xs.length * 1) = inner := ht
        rw [Nat.mul_one] at this
        rw [this, hin]
      unfold Reg
      rw [List.nil_append, ← e, List.take_append_drop]
      exact hh
theorem Reg.to_row {base cap : Nat} {ok : Nat → Prop} (h : Reg w g [] post xs) (hb : base ≤ g) (hok : ok g) (hcm : cap ≤ maxLen) (hc : cap = xs.length + post.length) : Kd.R (Kd.int .i32) 21 w base ok (.slice (some ⟨g, 0, none⟩) xs.length cap) xs := by
  refine ⟨fun k hk => ?_, nums .i32 xs, ⟨by simp only [nums, List.length_map]; exact (Nat.mul_one _).symm, .inr ⟨g, cap, _, rfl, hb, h, by omega, hcm, ?_, ?_⟩⟩, ⟨by simp only [nums, List.length_map]; exact (Nat.mul_one _).symm, fun j p hj => ?_⟩⟩
  · have : g = k := by simpa [Value.ownBlock] using hk
    exact this ▸ hok
  · show _ = cap * 1
    simp [nums]; omega
  · show List.take (xs.length * 1) _ = _
    rw [Nat.mul_one]
    simp [nums]
  · obtain ⟨hjl, rfl⟩ := List.getElem?_eq_some_iff.1 hj
    show List.take 1 (List.drop (j * 1) (nums .i32 xs)) = [.int .i32 xs[j]]
    have hjn : j < (nums .i32 xs).length := by simpa [nums] using hjl
    rw [Nat.mul_one, List.drop_eq_getElem_cons hjn, List.take_succ_cons, List.take_zero]
    simp [nums]
theorem Reg.two {P Q R : List Int} {x y : Int} (h : Reg w g pre post (P ++ x :: (Q ++ y :: R))) {off p q : Nat} (ho : off = pre.length) (hp : p = P.length) (hq : q = P.length + 1 + Q.length) :
    w.cell? ⟨g, off + p, none⟩ = some (.int .i32 x) ∧ w.cell? ⟨g, off + q, none⟩ = some (.int .i32 y) ∧
    Reg ((w.setCell ⟨g, off + p, none⟩ (.int .i32 y)).setCell ⟨g, off + q, none⟩ (.int .i32 x)) g pre post (P ++ y :: (Q ++ x :: R)) ∧
    Reg ((w.setCell ⟨g, off + q, none⟩ (.int .i32 x)).setCell ⟨g, off + p, none⟩ (.int .i32 y)) g pre post (P ++ y :: (Q ++ x :: R)) := by
  subst ho hp hq
  refine ⟨?_, ?_, ?_, ?_⟩
  · have := h.at_ P.length (by simp)
    rw [Nc.get_at] at this
    exact this
  · have := h.at_ (P.length + 1 + Q.length) (by simp; omega)
    rw [Nc.get_at2] at this
    exact this
  · have h1 := (h.set P.length (by simp) y).set (P.length + 1 + Q.length) (by simp; omega) x
    rw [Nc.set2] at h1
    exact h1
  · have h1 := (h.set (P.length + 1 + Q.length) (by simp; omega) x).set P.length (by simp) y
    rw [Nc.set2'] at h1
    exact h1
theorem G_chg {S : Nat → Prop} (h : G w) (c : Chg S w w') (hS : ∀ k, k < 3 → ¬ S k) : G w' :=
  ⟨fun j v hv => cell_chg (h.1 j v hv) c (hS 0 (by decide)), fun j v hv => cell_chg (h.2.1 j v hv) c (hS 1 (by decide)), fun j v hv => cell_chg (h.2.2 j v hv) c (hS 2 (by decide))⟩
theorem G_size (h : G w) : 3 ≤ w.heap.size := by
  have := h.2.2 0 (.int .i32 768) rfl
  have := World.block_lt_of_cell? w _ this
  exact this
end
structure Aft (w : World) where
  w' : World
  hb : Below w.heap.size w w'
instance (w : World) : Inhabited (Aft w) := ⟨⟨w, Below.refl _ _⟩⟩
theorem wp_region_aft {P : Program} {id : Nat} {Q : Exit → Act → World → Prop} {a : Act} {w : World} {l : List Oper} (hm : P.follows .mixedOrders = true) (hB : Region.lexB .any l.toArray = true)
    (h : wpQuiet P l.toArray (fun w2 => ∃ p : Aft w, w2 = p.w') (fun a' => ∀ w2, (∃ p : Aft w, w2 = p.w') → Q .normal a' w2) l a) : (Code.region id l.toArray true).wp P Q a w :=
  wp_region_quiet (C := fun w2 => ∃ p : Aft w, w2 = p.w') hm hB ⟨⟨w.drew, below_drew (Below.refl _ _)⟩, rfl⟩ (by simpa using h)
theorem Aft.cell {w : World} (p : Aft w) {a : Addr} {v : Value} (h : w.cell? a = some v) : p.w'.cell? a = some v := (p.hb.cell (World.block_lt_of_cell? w a h)).trans h
theorem aft_of {P : Program} {f : FuncId} {args : Array Value} {w : World} {p : Aft w} {v : Value} (h : Calls P f args p.w' fun e w' => e = .returned v ∧ Below p.w'.heap.size p.w' w') : Calls P f args p.w' fun e w'' => e = .returned v ∧ ∃ q : Aft w, w'' = q.w' :=
  h.mono fun _ w2 ⟨he, hb⟩ => ⟨he, ⟨w2, below_then p.hb p.hb.size hb⟩, rfl⟩
end Go.Proofs.YtdambnclbpipdaaGreatDoor.Nb
namespace Go.Proofs.YtdambnclbpipdaaGreatDoor.X
open Go.RowKit Go.Proofs.YtdambnclbpipdaaGreatDoorW.PrintWords Go.Proofs.YtdambnclbpipdaaGreatDoorW.PrintLast Go.Proofs.YtdambnclbpipdaaGreatDoorW.PrintMore
attribute [local go_sem] max2_int min2_int max_two min_two max_three min_three max_four min_four   
set_option linter.unusedVariables false
set_option linter.unusedSimpArgs false
def cmp_isNaN_int.f (a0 : Int) : Option (Bool) := some (a0 != a0)
set_option maxHeartbeats 8000000 in
set_option maxRecDepth 100000 in
theorem cmp_isNaN_int.calls (a0 : Int) (r : Bool) (w : World) (h : cmp_isNaN_int.f a0 = some r) :
  Calls Tryz.prog 159 #[.int .i64 a0] w fun e w' => e = .returned (.bool r) ∧ Drawn0 w w' := by
 have H : (some (a0 != a0)) = some r := h
 clear h
 obtain rfl := Option.some.inj H
 go_enter Tryz.func159, Tryz.ntmps159
 go_wp2
 go_ret
 exact ⟨by first | rfl | (simp; done) | (simp [*]; done), by repeat (first | exact Drawn0.refl _ | apply Drawn0.step)⟩
end Go.Proofs.YtdambnclbpipdaaGreatDoor.X
namespace Go.Proofs.YtdambnclbpipdaaGreatDoor.X
open Go.RowKit Go.Proofs.YtdambnclbpipdaaGreatDoorW.PrintWords Go.Proofs.YtdambnclbpipdaaGreatDoorW.PrintLast Go.Proofs.YtdambnclbpipdaaGreatDoorW.PrintMore
attribute [local go_sem] max2_int min2_int max_two min_two max_three min_three max_four min_four   
set_option linter.unusedVariables false
set_option linter.unusedSimpArgs false
def cmp_Compare_int.f (a0 : Int) (a1 : Int) : Option (Int) := (cmp_isNaN_int.f a0).bind fun t101 => ((cmp_isNaN_int.f a1).bind fun t102 => (if t101 = true then (if t102 = true then (some 0) else (some (-1))) else (if t102 = true then (some 1) else (if a0 < a1 then (some (-1)) else (if a0 > a1 then (some 1) else (some 0))))))
set_option maxHeartbeats 8000000 in
set_option maxRecDepth 100000 in
theorem cmp_Compare_int.calls (a0 : Int) (a1 : Int) (r : Int) (w : World) (h : cmp_Compare_int.f a0 a1 = some r) :
  Calls Tryz.prog 179 #[.int .i64 a0, .int .i64 a1] w fun e w' => e = .returned (.int .i64 r) ∧ Drawn0 w w' := by
 have H : ((cmp_isNaN_int.f a0).bind fun t101 => ((cmp_isNaN_int.f a1).bind fun t102 => (if t101 = true then (if t102 = true then (some 0) else (some (-1))) else (if t102 = true then (some 1) else (if a0 < a1 then (some (-1)) else (if a0 > a1 then (some 1) else (some 0))))))) = some r := h
 clear h
 replace H := Option.bind_eq_some_iff.mp H
 obtain ⟨t101, A30, H⟩ := H
 replace H : ((cmp_isNaN_int.f a1).bind fun t102 => (if t101 = true then (if t102 = true then (some 0) else (some (-1))) else (if t102 = true then (some 1) else (if a0 < a1 then (some (-1)) else (if a0 > a1 then (some 1) else (some 0)))))) = some r := H
 have A3 := Aside0.mk A30
 clear A30
 replace H := Option.bind_eq_some_iff.mp H
 obtain ⟨t102, A40, H⟩ := H
 replace H : (if t101 = true then (if t102 = true then (some 0) else (some (-1))) else (if t102 = true then (some 1) else (if a0 < a1 then (some (-1)) else (if a0 > a1 then (some 1) else (some 0))))) = some r := H
 have A4 := Aside0.mk A40
 clear A40
 by_cases c5 : t101 = true
 ·subst c5
  have H1 : (if t102 = true then (some 0) else (some (-1))) = some r := by rw [if_pos rfl] at H; exact H
  clear H
  have H := H1
  clear H1
  by_cases c6 : t102 = true
  ·subst c6
   have H1 : (some 0) = some r := by rw [if_pos rfl] at H; exact H
   clear H
   have H := H1
   clear H1
   obtain rfl := Option.some.inj H
   go_enter Tryz.func179, Tryz.ntmps179
   go_wp2_with (first | ((with_reducible refine gate_callee (f := 159) rfl ?_); refine goesL_ (some 8) rfl rfl Tryz.func159 (by kernel_rfl) rfl #[.int .i64 a0] rfl (by (try simp only [List.map_toArray, List.map_cons, List.map_nil]); first | done | rfl | (simp only [List.length_drop, List.length_take]; rfl)) ?_; (with_reducible refine (cmp_isNaN_int.calls a0 true _ A3.out).mono ?_); rintro e w' ⟨rfl, ⟨nd, rfl⟩⟩; refine ⟨_, rfl, ?_⟩) | ((with_reducible refine gate_callee (f := 159) rfl ?_); refine goesL_ (some 10) rfl rfl Tryz.func159 (by kernel_rfl) rfl #[.int .i64 a1] rfl (by (try simp only [List.map_toArray, List.map_cons, List.map_nil]); first | done | rfl | (simp only [List.length_drop, List.length_take]; rfl)) ?_; (with_reducible refine (cmp_isNaN_int.calls a1 true _ A4.out).mono ?_); rintro e w' ⟨rfl, ⟨nd, rfl⟩⟩; refine ⟨_, rfl, ?_⟩))
   go_ret
   exact ⟨by first | rfl | (simp; done) | (simp [*]; done), by repeat (first | exact Drawn0.refl _ | apply Drawn0.step)⟩
  ·replace c6 := Bool.eq_false_iff.mpr c6
   subst c6
   have H1 : (some (-1)) = some r := by rw [if_neg (show ¬ (false = true) by decide)] at H; exact H
   clear H
   have H := H1
   clear H1
   obtain rfl := Option.some.inj H
   go_enter Tryz.func179, Tryz.ntmps179
   go_wp2_with (first | ((with_reducible refine gate_callee (f := 159) rfl ?_); refine goesL_ (some 8) rfl rfl Tryz.func159 (by kernel_rfl) rfl #[.int .i64 a0] rfl (by (try simp only [List.map_toArray, List.map_cons, List.map_nil]); first | done | rfl | (simp only [List.length_drop, List.length_take]; rfl)) ?_; (with_reducible refine (cmp_isNaN_int.calls a0 true _ A3.out).mono ?_); rintro e w' ⟨rfl, ⟨nd, rfl⟩⟩; refine ⟨_, rfl, ?_⟩) | ((with_reducible refine gate_callee (f := 159) rfl ?_); refine goesL_ (some 10) rfl rfl Tryz.func159 (by kernel_rfl) rfl #[.int .i64 a1] rfl (by (try simp only [List.map_toArray, List.map_cons, List.map_nil]); first | done | rfl | (simp only [List.length_drop, List.length_take]; rfl)) ?_; (with_reducible refine (cmp_isNaN_int.calls a1 false _ A4.out).mono ?_); rintro e w' ⟨rfl, ⟨nd, rfl⟩⟩; refine ⟨_, rfl, ?_⟩))
   go_ret
   exact ⟨by first | rfl | (simp; done) | (simp [*]; done), by repeat (first | exact Drawn0.refl _ | apply Drawn0.step)⟩
 ·replace c5 := Bool.eq_false_iff.mpr c5
  subst c5
  have H1 : (if t102 = true then (some 1) else (if a0 < a1 then (some (-1)) else (if a0 > a1 then (some 1) else (some 0)))) = some r := by rw [if_neg (show ¬ (false = true) by decide)] at H; exact H
  clear H
  have H := H1
  clear H1
  by_cases c7 : t102 = true
  ·subst c7
   have H1 : (some 1) = some r := by rw [if_pos rfl] at H; exact H
   clear H
   have H := H1
   clear H1
   obtain rfl := Option.some.inj H
   go_enter Tryz.func179, Tryz.ntmps179
   go_wp2_with (first | ((with_reducible refine gate_callee (f := 159) rfl ?_); refine goesL_ (some 8) rfl rfl Tryz.func159 (by kernel_rfl) rfl #[.int .i64 a0] rfl (by (try simp only [List.map_toArray, List.map_cons, List.map_nil]); first | done | rfl | (simp only [List.length_drop, List.length_take]; rfl)) ?_; (with_reducible refine (cmp_isNaN_int.calls a0 false _ A3.out).mono ?_); rintro e w' ⟨rfl, ⟨nd, rfl⟩⟩; refine ⟨_, rfl, ?_⟩) | ((with_reducible refine gate_callee (f := 159) rfl ?_); refine goesL_ (some 10) rfl rfl Tryz.func159 (by kernel_rfl) rfl #[.int .i64 a1] rfl (by (try simp only [List.map_toArray, List.map_cons, List.map_nil]); first | done | rfl | (simp only [List.length_drop, List.length_take]; rfl)) ?_; (with_reducible refine (cmp_isNaN_int.calls a1 true _ A4.out).mono ?_); rintro e w' ⟨rfl, ⟨nd, rfl⟩⟩; refine ⟨_, rfl, ?_⟩))
   go_ret
   exact ⟨by first | rfl | (simp; done) | (simp [*]; done), by repeat (first | exact Drawn0.refl _ | apply Drawn0.step)⟩
  ·replace c7 := Bool.eq_false_iff.mpr c7
   subst c7
   have H1 : (if a0 < a1 then (some (-1)) else (if a0 > a1 then (some 1) else (some 0))) = some r := by rw [if_neg (show ¬ (false = true) by decide)] at H; exact H
   clear H
   have H := H1
   clear H1
   by_cases c8 : a0 < a1
   ·rw [if_pos c8] at H
    have c8b0 : decide (a0 < a1) = true := decide_eq_true c8
    clear c8
    obtain rfl := Option.some.inj H
    go_enter Tryz.func179, Tryz.ntmps179
    go_wp2_with (first | ((with_reducible refine gate_callee (f := 159) rfl ?_); refine goesL_ (some 8) rfl rfl Tryz.func159 (by kernel_rfl) rfl #[.int .i64 a0] rfl (by (try simp only [List.map_toArray, List.map_cons, List.map_nil]); first | done | rfl | (simp only [List.length_drop, List.length_take]; rfl)) ?_; (with_reducible refine (cmp_isNaN_int.calls a0 false _ A3.out).mono ?_); rintro e w' ⟨rfl, ⟨nd, rfl⟩⟩; refine ⟨_, rfl, ?_⟩) | ((with_reducible refine gate_callee (f := 159) rfl ?_); refine goesL_ (some 10) rfl rfl Tryz.func159 (by kernel_rfl) rfl #[.int .i64 a1] rfl (by (try simp only [List.map_toArray, List.map_cons, List.map_nil]); first | done | rfl | (simp only [List.length_drop, List.length_take]; rfl)) ?_; (with_reducible refine (cmp_isNaN_int.calls a1 false _ A4.out).mono ?_); rintro e w' ⟨rfl, ⟨nd, rfl⟩⟩; refine ⟨_, rfl, ?_⟩))
    go_ret
    exact ⟨by first | rfl | (simp; done) | (simp [*]; done), by repeat (first | exact Drawn0.refl _ | apply Drawn0.step)⟩
   ·rw [if_neg c8] at H
    have c8b0 : decide (a0 < a1) = false := decide_eq_false c8
    clear c8
    by_cases c9 : a0 > a1
    ·rw [if_pos c9] at H
     have c9b0 : decide (a1 < a0) = true := decide_eq_true c9
     clear c9
     obtain rfl := Option.some.inj H
     go_enter Tryz.func179, Tryz.ntmps179
     go_wp2_with (first | ((with_reducible refine gate_callee (f := 159) rfl ?_); refine goesL_ (some 8) rfl rfl Tryz.func159 (by kernel_rfl) rfl #[.int .i64 a0] rfl (by (try simp only [List.map_toArray, List.map_cons, List.map_nil]); first | done | rfl | (simp only [List.length_drop, List.length_take]; rfl)) ?_; (with_reducible refine (cmp_isNaN_int.calls a0 false _ A3.out).mono ?_); rintro e w' ⟨rfl, ⟨nd, rfl⟩⟩; refine ⟨_, rfl, ?_⟩) | ((with_reducible refine gate_callee (f := 159) rfl ?_); refine goesL_ (some 10) rfl rfl Tryz.func159 (by kernel_rfl) rfl #[.int .i64 a1] rfl (by (try simp only [List.map_toArray, List.map_cons, List.map_nil]); first | done | rfl | (simp only [List.length_drop, List.length_take]; rfl)) ?_; (with_reducible refine (cmp_isNaN_int.calls a1 false _ A4.out).mono ?_); rintro e w' ⟨rfl, ⟨nd, rfl⟩⟩; refine ⟨_, rfl, ?_⟩))
     go_ret
     exact ⟨by first | rfl | (simp; done) | (simp [*]; done), by repeat (first | exact Drawn0.refl _ | apply Drawn0.step)⟩
    ·rw [if_neg c9] at H
     have c9b0 : decide (a1 < a0) = false := decide_eq_false c9
     clear c9
     obtain rfl := Option.some.inj H
     go_enter Tryz.func179, Tryz.ntmps179
     go_wp2_with (first | ((with_reducible refine gate_callee (f := 159) rfl ?_); refine goesL_ (some 8) rfl rfl Tryz.func159 (by kernel_rfl) rfl #[.int .i64 a0] rfl (by (try simp only [List.map_toArray, List.map_cons, List.map_nil]); first | done | rfl | (simp only [List.length_drop, List.length_take]; rfl)) ?_; (with_reducible refine (cmp_isNaN_int.calls a0 false _ A3.out).mono ?_); rintro e w' ⟨rfl, ⟨nd, rfl⟩⟩; refine ⟨_, rfl, ?_⟩) | ((with_reducible refine gate_callee (f := 159) rfl ?_); refine goesL_ (some 10) rfl rfl Tryz.func159 (by kernel_rfl) rfl #[.int .i64 a1] rfl (by (try simp only [List.map_toArray, List.map_cons, List.map_nil]); first | done | rfl | (simp only [List.length_drop, List.length_take]; rfl)) ?_; (with_reducible refine (cmp_isNaN_int.calls a1 false _ A4.out).mono ?_); rintro e w' ⟨rfl, ⟨nd, rfl⟩⟩; refine ⟨_, rfl, ?_⟩))
     go_ret
     exact ⟨by first | rfl | (simp; done) | (simp [*]; done), by repeat (first | exact Drawn0.refl _ | apply Drawn0.step)⟩
end Go.Proofs.YtdambnclbpipdaaGreatDoor.X
