/-
  Several texts of this claim in one: what its law's proof uses.
-/
import Derived.Test.YthffpkdadffinaaDoorMWJ0
import Derived.Test.YthffpkdadffinaaDoorRows
import Derived.Deep.Slices
import Derived.ChangeArms
import Derived.ChangeMaps
import Derived.SizedLaws
import Derived.OpenShut
import Derived.ProofKit
import Derived.Test.YthffpkdadffinaaDoorProg
import Derived.Deep.MidRow
import Derived.WalkKit
import Derived.WalkSpells
import Derived.WalkLawsBesides
import Derived.Deep.QuietTactic
import Derived.BigRegion
import Derived.RegionTactic
import Derived.BigQuiet
import Derived.Below
import Derived.Deep.Draws
import Derived.Deep.AppendLies
import Derived.Maps.AppendAt
import Derived.OwnWalk
import Derived.Laws.BytesArg
import Derived.Laws.MakeOwn
import Derived.Laws.OwnMore
import Derived.Deep.OwnRows
import Derived.Tactics
import Derived.Lib.ConvBytes
import Derived.Laws.Slices
import Derived.KernelRfl
import Derived.RowKit3
import Derived.Deep.LoopGhost
import Derived.WideLaws
import Derived.Deep.DeepCutAuto
import Derived.Deep.CutBlock
import Derived.Deep.RegionHeld3
import Derived.Laws.Rows
import Derived.Lib.AppendStr
import Derived.ArgAppend
import Derived.Laws.IdiomCopy
import Derived.OrdersHeld
import Derived.Laws.BitsLemmas
import Derived.RowKit
import Derived.Test.YthffpkdadffinaaDoorMWJ1
import Derived.IntWalk
namespace Go.Proofs.YthffpkdadffinaaDoor.Hp
set_option linter.unusedVariables false
set_option linter.unusedSimpArgs false
open Go.RowKit YthffpkdadffinaaDoorW.PrintWords
structure Chg (S : Nat → Prop) (w w' : World) : Prop where
  os : w'.os = w.os
  tape : w'.tape = w.tape
  output : w'.output = w.output
  size : w.heap.size ≤ w'.heap.size
  keep : ∀ k, k < w.heap.size → ¬ S k → w'.heap[k]? = w.heap[k]?
namespace Chg
variable {S S' : Nat → Prop} {w w' w1 w2 : World}
theorem refl (S : Nat → Prop) (w : World) : Chg S w w := ⟨rfl, rfl, rfl, Nat.le_refl _, fun _ _ _ => rfl⟩
theorem mono (h : Chg S w w') (hs : ∀ k, k < w.heap.size → S k → S' k) : Chg S' w w' :=
  ⟨h.os, h.tape, h.output, h.size, fun k hk hn => h.keep k hk (fun h2 => hn (hs k hk h2))⟩
theorem trans (h : Chg S w w1) (k : Chg S' w1 w2) (hs : ∀ i, i < w.heap.size → S' i → S i) : Chg S w w2 :=
  ⟨k.os.trans h.os, k.tape.trans h.tape, k.output.trans h.output, Nat.le_trans h.size k.size,
    fun i hi hn => (k.keep i (Nat.lt_of_lt_of_le hi h.size) (fun h2 => hn (hs i hi h2))).trans (h.keep i hi hn)⟩
theorem of_below {B : Nat} (h : Below B w w') (hB : ∀ k, k < w.heap.size → B ≤ k → S k) : Chg S w w' :=
  ⟨h.os, h.tape, h.output, h.size, fun i hi hn => h.block i (by rcases Nat.lt_or_ge i B with h1 | h1; exact h1; exact absurd (hB i hi h1) hn)⟩
theorem below (h : Chg S w w') {B : Nat} (hB : ∀ k, k < B → k < w.heap.size ∧ ¬ S k) : Below B w w' :=
  ⟨h.os, h.tape, h.output, h.size, fun k hk => h.keep k (hB k hk).1 (hB k hk).2⟩
theorem then_below (h : Chg S w w1) (k : Below w1.heap.size w1 w2) : Chg S w w2 :=
  h.trans (of_below k (S := fun _ => False) (fun i h1 h2 => by omega)) (fun _ _ h => h.elim)
theorem then_drawn (h : Chg S w w1) (k : Drawn0 w1 w2) : Chg S w w2 := h.then_below k.below
theorem drew (h : Chg S w w1) : Chg S w w1.drew := h.then_drawn ((Drawn0.refl w1).step 1)
theorem drewN (h : Chg S w w1) (n : Nat) : Chg S w (w1.drewN n) := h.then_drawn ((Drawn0.refl w1).step n)
theorem alloc (h : Chg S w w1) (o : Obj) : Chg S w (w1.alloc o) := h.then_below (below_alloc (Below.refl _ _) o)
theorem grown {row : Option Nat} (h : Chg S w w1) (hg : w1.grownBy w2 row) (hr : ∀ k, row = some k → S k ∨ w.heap.size ≤ k) : Chg S w w2 :=
  h.trans (S' := fun k => row = some k) ⟨hg.os, hg.tape, hg.output, hg.size, fun k hk hn => hg.block k hk (fun he => hn he.symm)⟩
    (fun i hi h2 => (hr i h2).elim id (fun h3 => by omega))
theorem setCell (h : Chg S w w1) {p : Addr} (hp : S p.block ∨ w.heap.size ≤ p.block) (u : Value) : Chg S w (w1.setCell p u) :=
  h.trans (S' := fun k => k = p.block) ⟨rfl, rfl, rfl, by simp [World.setCell], fun k _ hn => Below.heap_setCell _ _ _ _ hn⟩
    (fun i hi h2 => hp.elim (fun h3 => h2 ▸ h3) (fun h3 => by omega))
theorem kept (h : Chg S w w') : w.heap.size ≤ w'.heap.size ∧ ∀ i, i < w.heap.size → ¬ S i → w'.heap[i]? = w.heap[i]? := ⟨h.size, h.keep⟩
theorem below_of {w0 : World} (hb : Below w0.heap.size w0 w) (h : Chg S w w') (hS : ∀ k, S k → w0.heap.size ≤ k) : Below w0.heap.size w0 w' :=
  hb.trans (h.below (fun k hk => ⟨Nat.lt_of_lt_of_le hk hb.size, fun h2 => by have := hS k h2; omega⟩))
theorem heap (h : Chg S w w') {g : Nat} {o : Obj} (hb : w.heap[g]? = some o) (hne : ¬ S g) : w'.heap[g]? = some o := (h.keep g (blk_lt hb) hne).trans hb
theorem lt (h : Chg S w w') {k : Nat} (hk : k < w.heap.size) : k < w'.heap.size := Nat.lt_of_lt_of_le hk h.size
end Chg
def Ft (P : World → Prop) (W : World) (ok : Nat → Prop) : Prop := ∀ W' : World, (∀ k, ok k → k < W.heap.size → W'.heap[k]? = W.heap[k]?) → P W'
namespace Ft
variable {P Q : World → Prop} {W W1 : World} {ok ok' S : Nat → Prop}
theorem hlt {k : Nat} (h : W1.heap[k]? = W.heap[k]?) (hlt : k < W.heap.size) : k < W1.heap.size := by
  rw [Array.getElem?_eq_getElem hlt] at h; exact (Array.getElem?_eq_some_iff.1 h).1
theorem now (h : Ft P W ok) : P W := h W (fun _ _ _ => rfl)
theorem mono (h : Ft P W ok) (hok : ∀ k, k < W.heap.size → ok k → ok' k) : Ft P W ok' := fun W' hW => h W' (fun k hk hlt => hW k (hok k hlt hk) hlt)
theorem bound (h : Ft P W ok) : Ft P W (fun k => ok k ∧ k < W.heap.size) := h.mono fun _ hlt hk => ⟨hk, hlt⟩
theorem step (h : Ft P W ok) (hm : ∀ k, ok k → k < W.heap.size → W1.heap[k]? = W.heap[k]?) : Ft P W1 (fun k => ok k ∧ k < W.heap.size) := fun W' hW => h W' (fun k hk hlt => (hW k ⟨hk, hlt⟩ (hlt |> Ft.hlt (hm k hk hlt))).trans (hm k hk hlt))
theorem imp (h : Ft P W ok) (hi : ∀ W', P W' → Q W') : Ft Q W ok := fun W' hW => hi W' (h W' hW)
theorem and (h : Ft P W ok) (k : Ft Q W ok') : Ft (fun w => P w ∧ Q w) W (fun i => ok i ∨ ok' i) := fun W' hW => ⟨h W' (fun i hi => hW i (.inl hi)), k W' (fun i hi => hW i (.inr hi))⟩
end Ft
section
variable {α : Type} {d : Kd α} {e base n c : Nat} {ok S : Nat → Prop} {w w0 W W1 : World} {v : Value} {A : Option Addr} {xs : List α}
theorem R_chg (h : d.R e W base ok v xs) (hc : Chg S W W1) (hne : ∀ k, ok k → ¬ S k) : d.R e W1 base ok v xs := Kd.R_step h (fun k ho hlt => hc.keep k hlt (hne k ho))
theorem cell_chg {a : Addr} {u : Value} (hc : W.cell? a = some u) (hk : Chg S W W1) (hne : ¬ S a.block) : W1.cell? a = some u := by
  have := hk.keep a.block (World.block_lt_of_cell? W a hc) hne
  simpa [World.cell?, this] using hc
end
theorem lit_reads {w : World} {b : Nat} {t : TypeId} {k : IntKind} {xs : List Int} {cs : Array Value} {fr : Nat × Nat} (h : w.heap[b]? = some (.cells cs t fr)) (hc : cs.toList = nums k xs) (hm : xs.length ≤ 9223372036854775807) :
    ReadsInt w k (some ⟨b, 0, none⟩) xs.length xs := by
  refine ⟨rfl, hm, fun _ => ⟨_, rfl, fun j hj => ?_⟩⟩; rw [add_plain]
  have : cs[j]? = some (.int k (xs.getD j 0)) := by
    rw [← Array.getElem?_toList, hc]; simp [nums, List.getElem?_eq_getElem hj, List.getD_eq_getElem?_getD]
  simp [World.cell?, h, this]
theorem rdint {w : World} {k : IntKind} {A : Option Addr} {n : Nat} {xs : List Int} (h : (Kd.int k).C w A n xs) : ReadsInt w k A n xs := Kd.reads_of_C (d := (0 : Int)) (h1 := fun _ => rfl) h
theorem rdC {w : World} {k : IntKind} {A : Option Addr} {n : Nat} {xs : List Int} (h : ReadsInt w k A n xs) : (Kd.int k).C w A n xs := Kd.C_of_reads (d := (0 : Int)) (h1 := fun _ => rfl) h
theorem below_size {w W : World} (h : Below w.heap.size w W) : w.heap.size ≤ W.heap.size := h.size
end Go.Proofs.YthffpkdadffinaaDoor.Hp
namespace Go.Proofs.YthffpkdadffinaaDoor.Od
set_option linter.unusedVariables false
set_option linter.unusedSimpArgs false
open Go.RowKit YthffpkdadffinaaDoorW.PrintWords Hp Go.ChangeShapes Go.WideShapes
def Opens {α : Type} (P : Program) (t : TypeId) (d : Kd α) (wf : α → Prop) (bulk : α → Nat) : Prop :=
  ∀ (H : Type) (enc : TypeId × Value → H) (w : World) (base : Nat) (spare : Nat → Bool) (held : Bool) (fuel : Nat) (cs : List Value) (x : DataW H × List MemPlace),
    DataW.trod enc P w base spare held fuel t cs = some x → ∃ a, d.K w a cs ∧ wf a ∧ bulk a ≤ Rows.uptoBulk x.1
def sumB {α : Type} (bulk : α → Nat) : List α → Nat
  | [] => 0
  | a :: l => bulk a + sumB bulk l
theorem bulkAll_append {H : Type} (l r : List (DataW H)) : Rows.uptoBulkAll (l ++ r) = Rows.uptoBulkAll l + Rows.uptoBulkAll r := by
  induction l with
  | nil => simp [Rows.uptoBulkAll]
  | cons x l ih => simp only [List.cons_append, Rows.uptoBulkAll, ih]; omega
section
variable {P : Program}
theorem opens_int {t : TypeId} {k : IntKind} (ht : P.underlying t = some (.int k)) : Opens P t (Kd.int k) (fun n => (Lit.int k n).wf = true) (fun _ => 1) := by
  intro H enc w base spare held fuel cs x h; obtain ⟨n, rfl, rfl, hw⟩ := DataW.trod_int ht h; exact ⟨n, rfl, hw, by simp [Rows.uptoBulk]⟩
theorem slice_list {α : Type} {d : Kd α} {wf : α → Prop} {bulk : α → Nat} {e : TypeId} {H : Type} {enc : TypeId × Value → H} {w : World} {base : Nat} {spare : Nat → Bool} {held : Bool} (ho : Opens P e d wf bulk) (hC : P.cellsOf e = d.sz) {a : Addr} {m n : Nat} {D : Nat → DataW H} {Pl : Nat → List MemPlace}
    (hx : ∀ i, i < m → ∃ cs', w.cells? base (a.add (i * P.cellsOf e)) (P.cellsOf e) = some cs' ∧ DataW.trod enc P w base spare held n e cs' = some (D i, Pl i)) (len : Nat) (hl : len ≤ m) (hM : len ≤ 9223372036854775807) :
    ∃ xs : List α, xs.length = len ∧ d.C w (some a) len xs ∧ (∀ x, x ∈ xs → wf x) ∧ sumB bulk xs ≤ Rows.uptoBulkAll ((List.range len).map D) := by
  have key : ∀ k, k ≤ len → ∃ xs : List α, xs.length = k ∧ (∀ j p, xs[j]? = some p → ∃ c, c.length = d.sz ∧ d.K w p c ∧ ∀ i u, c[i]? = some u → w.cell? (a.add (j * d.sz + i)) = some u) ∧ (∀ x, x ∈ xs → wf x) ∧ sumB bulk xs ≤ Rows.uptoBulkAll ((List.range k).map D) := by
    intro k
    induction k with
    | zero => exact fun _ => ⟨[], rfl, by simp, by simp, by simp [sumB]⟩
    | succ k ih =>
      intro hk; obtain ⟨xs, h1, h2, h3, h4⟩ := ih (by omega); obtain ⟨cs', hc, ht⟩ := hx k (by omega); obtain ⟨p, hK, hw, hb⟩ := ho H enc w base spare held n cs' _ ht; obtain ⟨_, hcl, hcell⟩ := World.cells?_some hc; refine ⟨xs ++ [p], by simp [h1], ?_, ?_, ?_⟩
      · intro j q hq; rw [List.getElem?_append] at hq; split at hq
        · exact h2 j q hq
        · rename_i hge; rcases Nat.lt_or_ge (j - xs.length) 1 with h5 | h5
          · (have hj : j = k := by omega); subst hj; rw [h1, Nat.sub_self] at hq; simp at hq; subst hq; refine ⟨cs', by rw [hcl, hC], hK, fun i u hu => ?_⟩; (have hi : i < P.cellsOf e := by rw [← hcl]; exact (List.getElem?_eq_some_iff.1 hu).1); have := hcell i hi; rw [Go.Deep.add_add, hC] at this; rw [this, hu]
          · rw [List.getElem?_eq_none (by simpa using h5)] at hq; cases hq
      · intro x hx; rcases List.mem_append.1 hx with hx | hx
        · exact h3 x hx
        · rw [List.mem_singleton.1 hx]; exact hw
      · have e2 : sumB bulk (xs ++ [p]) = sumB bulk xs + bulk p := by
          clear h1 h2 h3 h4
          induction xs with
          | nil => simp [sumB]
          | cons y ys ih2 => simp only [List.cons_append, sumB, ih2]; omega
        rw [e2, List.range_succ, List.map_append, bulkAll_append]; simp only [List.map_cons, List.map_nil, Rows.uptoBulkAll]; have hb2 : bulk p ≤ Rows.uptoBulk (D k) := hb; omega
  obtain ⟨xs, h1, h2, h3, h4⟩ := key len (Nat.le_refl _); exact ⟨xs, h1, ⟨h1, hM, fun _ => ⟨a, rfl, h2⟩⟩, h3, h4⟩
theorem arg_slice {α : Type} {d : Kd α} {wf : α → Prop} {bulk : α → Nat} {t e : TypeId} (ht : P.underlying t = some (.slice e)) (hC : P.cellsOf e = d.sz) (ho : Opens P e d wf bulk)
    {H : Type} {enc : TypeId × Value → H} {w : World} {base : Nat} {spare : Nat → Bool} {held : Bool} {v : Value} {data : DataW H} {ps : List MemPlace} {r : Reach} {b0 : Nat} (hv : Value.okWide P w r b0 t v) (h : DataW.Trod enc P w base spare held t v data ps) :
    ∃ A xs c, v = .slice A xs.length c ∧ xs.length ≤ c ∧ d.C w A xs.length xs ∧ (∀ x, x ∈ xs → wf x) ∧ sumB bulk xs + 1 ≤ Rows.uptoBulk data ∧
      (∀ (ts : List TypeId) (ds : List (DataW H)) (j B : Nat), (DataW.weightsEach P ts ds).all (· ≤ reachBytes) = true → ts[j]? = some t → ds[j]? = some data → P.bytesOf e = B → xs.length * B ≤ 140737488351232) := by
  obtain ⟨a0, len0, cap0, rfl⟩ := okWide_slice ht hv; obtain ⟨fuel, hf⟩ := h; rcases Go.Deep.open_slice ht hf with ⟨hcs, hx⟩ | ⟨a, len, cap, m, n, D, Pl, hcs, hb, hl, hm, hmm, hx, hi⟩
  · simp [Value.cells] at hcs; obtain ⟨rfl, rfl, rfl⟩ := hcs; obtain ⟨rfl, rfl⟩ := Prod.mk.inj hx; exact ⟨none, [], 0, rfl, Nat.le_refl _, Kd.C_nil d w, by simp, by simp [sumB, Rows.uptoBulk], by simp⟩
  · simp [Value.cells] at hcs; obtain ⟨rfl, rfl, rfl⟩ := hcs; obtain ⟨rfl, rfl⟩ := Prod.mk.inj hx; obtain ⟨xs, h1, h2, h3, h4⟩ := slice_list ho hC hi len0 (by rw [hmm]; split <;> omega) (by simp only [maxLen] at hm; omega); subst h1; refine ⟨some a, xs, cap0, rfl, hl, h2, h3, by simp only [Rows.uptoBulk]; omega, ?_⟩; intro ts ds j B hsz htj hdj hB; have z := sized_slice hsz htj hdj ht; rw [hB] at z; (have hr : reachBytes = 140737488351232 := by decide); simp only [List.length_map, List.length_range] at z; rw [hr] at z; exact Nat.le_trans (Nat.mul_le_mul_right _ (by omega)) z
end
end Go.Proofs.YthffpkdadffinaaDoor.Od
namespace Go.Proofs.YthffpkdadffinaaDoor.Va
set_option linter.unusedVariables false
set_option linter.unusedSimpArgs false
open Go.RowKit YthffpkdadffinaaDoorW.PrintWords Hp
def clsT : List (Int × Int × Int) := [(768, 788, 230), (789, 789, 232), (790, 793, 220), (794, 794, 232), (795, 795, 216), (796, 800, 220), (801, 802, 202), (803, 806, 220), (807, 808, 202), (809, 819, 220), (820, 824, 1), (825, 828, 220), (829, 836, 230), (837, 837, 240), (838, 838, 230), (839, 841, 220), (842, 844, 230), (845, 846, 220), (848, 850, 230), (851, 854, 220), (855, 855, 230), (8400, 8401, 230), (12441, 12442, 8)]
def prsT : List (Int × Int × Int) := [(469, 220, 772), (470, 252, 772), (832, 768, 0), (833, 769, 0), (835, 787, 0), (836, 776, 769), (902, 913, 769), (912, 970, 769), (940, 945, 769), (943, 953, 769), (970, 953, 776), (972, 959, 769), (7691, 100, 775), (7693, 100, 803), (7777, 115, 775), (7779, 115, 803), (7785, 7779, 775), (7841, 97, 803), (7844, 194, 769), (7845, 226, 769), (7863, 7841, 774), (7865, 101, 803), (7879, 7865, 770), (8049, 940, 0), (8115, 945, 837), (8486, 937, 0), (8490, 75, 0), (8491, 197, 0), (8800, 61, 824), (12364, 12363, 12441), (12497, 12495, 12442)]
def mksT : List Int := [768, 769, 770, 771, 772, 774, 775, 776, 778, 779, 780, 807, 808]
def cells3 (l : List (Int × Int × Int)) : List Value := l.flatMap fun p => [.int .i32 p.1, .int .i32 p.2.1, .int .i32 p.2.2]
def G (W : World) : Prop := W.rangeAt 1 0 (cells3 clsT) ∧ W.rangeAt 0 0 (cells3 prsT) ∧ W.rangeAt 2 0 (nums .i32 mksT)
theorem range_below {w W : World} {b o : Nat} {cs : List Value} (h : w.rangeAt b o cs) (hb : Below w.heap.size w W) : W.rangeAt b o cs := fun j v hv => (hb.cell (World.block_lt_of_cell? w _ (h j v hv))).trans (h j v hv)
theorem G.below {w W : World} (h : G w) (hb : Below w.heap.size w W) : G W := ⟨range_below h.1 hb, range_below h.2.1 hb, range_below h.2.2 hb⟩
def clsF (r : Int) : List (Int × Int × Int) → Int
  | [] => 0
  | p :: t => if p.1 ≤ r ∧ r ≤ p.2.1 then p.2.2 else clsF r t
def cls (r : Int) : Int := clsF r clsT
theorem infoC : (Tryd.prog.info? 113).map (·.size) = some (cells3 clsT).length := by kernel_rfl
theorem ix0 : ∀ W : World, (Instr.index 113 (.agg (cells3 clsT).toArray) (.int .i64 0)).run Tryd.prog W = .ok (.agg #[.int .i32 (clsT.getD 0 (0, 0, 0)).1, .int .i32 (clsT.getD 0 (0, 0, 0)).2.1, .int .i32 (clsT.getD 0 (0, 0, 0)).2.2]) W := fun _ => by kernel_rfl
theorem ix1 : ∀ W : World, (Instr.index 113 (.agg (cells3 clsT).toArray) (.int .i64 1)).run Tryd.prog W = .ok (.agg #[.int .i32 (clsT.getD 1 (0, 0, 0)).1, .int .i32 (clsT.getD 1 (0, 0, 0)).2.1, .int .i32 (clsT.getD 1 (0, 0, 0)).2.2]) W := fun _ => by kernel_rfl
theorem ix2 : ∀ W : World, (Instr.index 113 (.agg (cells3 clsT).toArray) (.int .i64 2)).run Tryd.prog W = .ok (.agg #[.int .i32 (clsT.getD 2 (0, 0, 0)).1, .int .i32 (clsT.getD 2 (0, 0, 0)).2.1, .int .i32 (clsT.getD 2 (0, 0, 0)).2.2]) W := fun _ => by kernel_rfl
theorem ix3 : ∀ W : World, (Instr.index 113 (.agg (cells3 clsT).toArray) (.int .i64 3)).run Tryd.prog W = .ok (.agg #[.int .i32 (clsT.getD 3 (0, 0, 0)).1, .int .i32 (clsT.getD 3 (0, 0, 0)).2.1, .int .i32 (clsT.getD 3 (0, 0, 0)).2.2]) W := fun _ => by kernel_rfl
theorem ix4 : ∀ W : World, (Instr.index 113 (.agg (cells3 clsT).toArray) (.int .i64 4)).run Tryd.prog W = .ok (.agg #[.int .i32 (clsT.getD 4 (0, 0, 0)).1, .int .i32 (clsT.getD 4 (0, 0, 0)).2.1, .int .i32 (clsT.getD 4 (0, 0, 0)).2.2]) W := fun _ => by kernel_rfl
theorem ix5 : ∀ W : World, (Instr.index 113 (.agg (cells3 clsT).toArray) (.int .i64 5)).run Tryd.prog W = .ok (.agg #[.int .i32 (clsT.getD 5 (0, 0, 0)).1, .int .i32 (clsT.getD 5 (0, 0, 0)).2.1, .int .i32 (clsT.getD 5 (0, 0, 0)).2.2]) W := fun _ => by kernel_rfl
theorem ix6 : ∀ W : World, (Instr.index 113 (.agg (cells3 clsT).toArray) (.int .i64 6)).run Tryd.prog W = .ok (.agg #[.int .i32 (clsT.getD 6 (0, 0, 0)).1, .int .i32 (clsT.getD 6 (0, 0, 0)).2.1, .int .i32 (clsT.getD 6 (0, 0, 0)).2.2]) W := fun _ => by kernel_rfl
theorem ix7 : ∀ W : World, (Instr.index 113 (.agg (cells3 clsT).toArray) (.int .i64 7)).run Tryd.prog W = .ok (.agg #[.int .i32 (clsT.getD 7 (0, 0, 0)).1, .int .i32 (clsT.getD 7 (0, 0, 0)).2.1, .int .i32 (clsT.getD 7 (0, 0, 0)).2.2]) W := fun _ => by kernel_rfl
theorem ix8 : ∀ W : World, (Instr.index 113 (.agg (cells3 clsT).toArray) (.int .i64 8)).run Tryd.prog W = .ok (.agg #[.int .i32 (clsT.getD 8 (0, 0, 0)).1, .int .i32 (clsT.getD 8 (0, 0, 0)).2.1, .int .i32 (clsT.getD 8 (0, 0, 0)).2.2]) W := fun _ => by kernel_rfl
theorem ix9 : ∀ W : World, (Instr.index 113 (.agg (cells3 clsT).toArray) (.int .i64 9)).run Tryd.prog W = .ok (.agg #[.int .i32 (clsT.getD 9 (0, 0, 0)).1, .int .i32 (clsT.getD 9 (0, 0, 0)).2.1, .int .i32 (clsT.getD 9 (0, 0, 0)).2.2]) W := fun _ => by kernel_rfl
theorem ix10 : ∀ W : World, (Instr.index 113 (.agg (cells3 clsT).toArray) (.int .i64 10)).run Tryd.prog W = .ok (.agg #[.int .i32 (clsT.getD 10 (0, 0, 0)).1, .int .i32 (clsT.getD 10 (0, 0, 0)).2.1, .int .i32 (clsT.getD 10 (0, 0, 0)).2.2]) W := fun _ => by kernel_rfl
theorem ix11 : ∀ W : World, (Instr.index 113 (.agg (cells3 clsT).toArray) (.int .i64 11)).run Tryd.prog W = .ok (.agg #[.int .i32 (clsT.getD 11 (0, 0, 0)).1, .int .i32 (clsT.getD 11 (0, 0, 0)).2.1, .int .i32 (clsT.getD 11 (0, 0, 0)).2.2]) W := fun _ => by kernel_rfl
theorem ix12 : ∀ W : World, (Instr.index 113 (.agg (cells3 clsT).toArray) (.int .i64 12)).run Tryd.prog W = .ok (.agg #[.int .i32 (clsT.getD 12 (0, 0, 0)).1, .int .i32 (clsT.getD 12 (0, 0, 0)).2.1, .int .i32 (clsT.getD 12 (0, 0, 0)).2.2]) W := fun _ => by kernel_rfl
theorem ix13 : ∀ W : World, (Instr.index 113 (.agg (cells3 clsT).toArray) (.int .i64 13)).run Tryd.prog W = .ok (.agg #[.int .i32 (clsT.getD 13 (0, 0, 0)).1, .int .i32 (clsT.getD 13 (0, 0, 0)).2.1, .int .i32 (clsT.getD 13 (0, 0, 0)).2.2]) W := fun _ => by kernel_rfl
theorem ix14 : ∀ W : World, (Instr.index 113 (.agg (cells3 clsT).toArray) (.int .i64 14)).run Tryd.prog W = .ok (.agg #[.int .i32 (clsT.getD 14 (0, 0, 0)).1, .int .i32 (clsT.getD 14 (0, 0, 0)).2.1, .int .i32 (clsT.getD 14 (0, 0, 0)).2.2]) W := fun _ => by kernel_rfl
theorem ix15 : ∀ W : World, (Instr.index 113 (.agg (cells3 clsT).toArray) (.int .i64 15)).run Tryd.prog W = .ok (.agg #[.int .i32 (clsT.getD 15 (0, 0, 0)).1, .int .i32 (clsT.getD 15 (0, 0, 0)).2.1, .int .i32 (clsT.getD 15 (0, 0, 0)).2.2]) W := fun _ => by kernel_rfl
theorem ix16 : ∀ W : World, (Instr.index 113 (.agg (cells3 clsT).toArray) (.int .i64 16)).run Tryd.prog W = .ok (.agg #[.int .i32 (clsT.getD 16 (0, 0, 0)).1, .int .i32 (clsT.getD 16 (0, 0, 0)).2.1, .int .i32 (clsT.getD 16 (0, 0, 0)).2.2]) W := fun _ => by kernel_rfl
theorem ix17 : ∀ W : World, (Instr.index 113 (.agg (cells3 clsT).toArray) (.int .i64 17)).run Tryd.prog W = .ok (.agg #[.int .i32 (clsT.getD 17 (0, 0, 0)).1, .int .i32 (clsT.getD 17 (0, 0, 0)).2.1, .int .i32 (clsT.getD 17 (0, 0, 0)).2.2]) W := fun _ => by kernel_rfl
theorem ix18 : ∀ W : World, (Instr.index 113 (.agg (cells3 clsT).toArray) (.int .i64 18)).run Tryd.prog W = .ok (.agg #[.int .i32 (clsT.getD 18 (0, 0, 0)).1, .int .i32 (clsT.getD 18 (0, 0, 0)).2.1, .int .i32 (clsT.getD 18 (0, 0, 0)).2.2]) W := fun _ => by kernel_rfl
theorem ix19 : ∀ W : World, (Instr.index 113 (.agg (cells3 clsT).toArray) (.int .i64 19)).run Tryd.prog W = .ok (.agg #[.int .i32 (clsT.getD 19 (0, 0, 0)).1, .int .i32 (clsT.getD 19 (0, 0, 0)).2.1, .int .i32 (clsT.getD 19 (0, 0, 0)).2.2]) W := fun _ => by kernel_rfl
theorem ix20 : ∀ W : World, (Instr.index 113 (.agg (cells3 clsT).toArray) (.int .i64 20)).run Tryd.prog W = .ok (.agg #[.int .i32 (clsT.getD 20 (0, 0, 0)).1, .int .i32 (clsT.getD 20 (0, 0, 0)).2.1, .int .i32 (clsT.getD 20 (0, 0, 0)).2.2]) W := fun _ => by kernel_rfl
theorem ix21 : ∀ W : World, (Instr.index 113 (.agg (cells3 clsT).toArray) (.int .i64 21)).run Tryd.prog W = .ok (.agg #[.int .i32 (clsT.getD 21 (0, 0, 0)).1, .int .i32 (clsT.getD 21 (0, 0, 0)).2.1, .int .i32 (clsT.getD 21 (0, 0, 0)).2.2]) W := fun _ => by kernel_rfl
theorem ix22 : ∀ W : World, (Instr.index 113 (.agg (cells3 clsT).toArray) (.int .i64 22)).run Tryd.prog W = .ok (.agg #[.int .i32 (clsT.getD 22 (0, 0, 0)).1, .int .i32 (clsT.getD 22 (0, 0, 0)).2.1, .int .i32 (clsT.getD 22 (0, 0, 0)).2.2]) W := fun _ => by kernel_rfl
theorem idxC (i : Nat) (hi : i < 23) : ∀ W : World, (Instr.index 113 (.agg (cells3 clsT).toArray) (.int .i64 (i : Int))).run Tryd.prog W = .ok (.agg #[.int .i32 (clsT.getD i (0, 0, 0)).1, .int .i32 (clsT.getD i (0, 0, 0)).2.1, .int .i32 (clsT.getD i (0, 0, 0)).2.2]) W := by
  intro W
  match i, hi with
  | 0, _ => exact ix0 W
  | 1, _ => exact ix1 W
  | 2, _ => exact ix2 W
  | 3, _ => exact ix3 W
  | 4, _ => exact ix4 W
  | 5, _ => exact ix5 W
  | 6, _ => exact ix6 W
  | 7, _ => exact ix7 W
  | 8, _ => exact ix8 W
  | 9, _ => exact ix9 W
  | 10, _ => exact ix10 W
  | 11, _ => exact ix11 W
  | 12, _ => exact ix12 W
  | 13, _ => exact ix13 W
  | 14, _ => exact ix14 W
  | 15, _ => exact ix15 W
  | 16, _ => exact ix16 W
  | 17, _ => exact ix17 W
  | 18, _ => exact ix18 W
  | 19, _ => exact ix19 W
  | 20, _ => exact ix20 W
  | 21, _ => exact ix21 W
  | 22, _ => exact ix22 W
  | n + 23, h => exact absurd h (by omega)
theorem cls_small : ∀ p, p ∈ clsT → 0 ≤ p.2.2 ∧ p.2.2 ≤ 240 := by decide
set_option maxRecDepth 100000 in
set_option maxHeartbeats 1000000 in
theorem ClassP (w : World) (hG : G w) (r : Int) : Calls Tryd.prog 55 #[.int .i32 r] w fun e w' => e = .returned (.int .i64 (cls r)) ∧ Below w.heap.size w w' := by
  obtain ⟨tl, htl⟩ : ∃ tl, tl = cells3 clsT := ⟨_, rfl⟩; have HT := Aside0.mk (show w.rangeAt 1 0 tl by rw [htl]; exact hG.1); have HI := Aside0.mk (show (Tryd.prog.info? 113).map (·.size) = some tl.length by rw [htl]; exact infoC); have HX := Aside0.mk (show ∀ i : Nat, i < 23 → ∀ W : World, (Instr.index 113 (.agg tl.toArray) (.int .i64 (i : Int))).run Tryd.prog W = .ok (.agg #[.int .i32 (clsT.getD i (0, 0, 0)).1, .int .i32 (clsT.getD i (0, 0, 0)).2.1, .int .i32 (clsT.getD i (0, 0, 0)).2.2]) W by rw [htl]; exact idxC); clear hG htl; have hu43 := Tryd.underlying110; go_enter Tryd.func55, Tryd.ntmps55; go_wp2_with (refine wpList_load_mid rfl 113 (.global 1) rfl 1 0 rfl tl _ HT.out Tryd.underlying113 rfl HI.out ?_); go_loopw [6] (fun iv wr => ∃ i : Nat, i ≤ 23 ∧ iv = .int .i64 i ∧ Aside0 (cls r = clsF r (clsT.drop i)) ∧ Aside0 (Below w.heap.size w wr)) (fun iv _ => 23 - (intOf iv).toNat)
  case atStart => exact ⟨0, Nat.zero_le _, rfl, ⟨rfl⟩, ⟨Below.refl _ _⟩⟩
  case round =>
    obtain ⟨i, hi, rfl, HE, HB⟩ := hrel; by_cases hlt : i < 23
    · have hd : decide ((i : Int) < 23) = true := decide_eq_true (by omega); have hix := HX.out i hlt; have he := HE.out
      have hmem : clsT.getD i (0, 0, 0) ∈ clsT := by
        have h1 : i < clsT.length := hlt; rw [List.getD_eq_getElem?_getD, List.getElem?_eq_getElem h1]; exact List.getElem_mem h1
      have hsm := cls_small _ hmem
      have hdr : clsT.drop i = clsT.getD i (0, 0, 0) :: clsT.drop (i + 1) := by
        have h1 : i < clsT.length := hlt; rw [List.drop_eq_getElem_cons h1, List.getD_eq_getElem?_getD, List.getElem?_eq_getElem h1]
        rfl
      rw [hdr, clsF] at he; obtain ⟨⟨a, b, c⟩, hp⟩ : ∃ p, p = clsT.getD i (0, 0, 0) := ⟨_, rfl⟩; rw [← hp] at hix he hsm; simp only at hix he hsm; clear hp hmem hdr; have NB := Aside0.mk (show Below w.heap.size w (wr.alloc (.cells #[.int .i32 a, .int .i32 b, .int .i32 c] 110)) from below_then HB.out HB.out.size (below_alloc (Below.refl _ _) _)); by_cases ha : a ≤ r
      · have ha1 : decide (a ≤ r) = true := decide_eq_true ha; by_cases hb : r ≤ b
        · have hb1 : decide (r ≤ b) = true := decide_eq_true hb; rw [if_pos ⟨ha, hb⟩] at he; have HE1 := Aside0.mk he; (have hw3 : wrap64 c = c := by unfold wrap64; omega); clear he; go_wp2; go_ret; exact ⟨by rw [HE1.out]; rfl, NB.out⟩
        · have hb1 : decide (r ≤ b) = false := decide_eq_false hb; rw [if_neg (fun h => hb h.2)] at he; have HE1 := Aside0.mk he; clear he; go_wp2; go_roundw
          case rel => exact ⟨i + 1, by omega, by go_num, HE1, NB⟩
          case measure => simp [intOf]; omega
      · have ha1 : decide (a ≤ r) = false := decide_eq_false ha; rw [if_neg (fun h => ha h.1)] at he; have HE1 := Aside0.mk he; clear he; go_wp2; go_roundw
        case rel => exact ⟨i + 1, by omega, by go_num, HE1, NB⟩
        case measure => simp [intOf]; omega
    · have hd : decide ((i : Int) < 23) = false := decide_eq_false (by omega); (obtain rfl : i = 23 := by omega); have he := HE.out; have HE1 := Aside0.mk (show cls r = 0 from he); clear he; go_wp2; go_ret; exact ⟨by rw [HE1.out]; rfl, HB.out⟩
end Go.Proofs.YthffpkdadffinaaDoor.Va
namespace Go.Proofs.YthffpkdadffinaaDoor.X
set_option linter.unusedVariables false
set_option linter.unusedSimpArgs false
open Go.RowKit YthffpkdadffinaaDoorW.PrintWords
end Go.Proofs.YthffpkdadffinaaDoor.X
namespace Go.Proofs.YthffpkdadffinaaDoor.Na
set_option linter.unusedVariables false
set_option linter.unusedSimpArgs false
open Va
def Sw (a b : List Int) : Prop := ∀ c : Int, a.filter (fun x => cls x == c) = b.filter (fun x => cls x == c)
def Srt (a : List Int) : Prop := a.Pairwise (fun x y => cls x ≤ cls y)
theorem Sw.refl (a : List Int) : Sw a a := fun _ => rfl
theorem Sw.symm {a b : List Int} (h : Sw a b) : Sw b a := fun c => (h c).symm
theorem Sw.trans {a b c : List Int} (h : Sw a b) (k : Sw b c) : Sw a c := fun d => (h d).trans (k d)
theorem Sw.append {a b c d : List Int} (h : Sw a b) (k : Sw c d) : Sw (a ++ c) (b ++ d) := fun e => by rw [List.filter_append, List.filter_append, h e, k e]
theorem Sw.comm {a b : List Int} (h : ∀ x ∈ a, ∀ y ∈ b, cls x ≠ cls y) : Sw (a ++ b) (b ++ a) := fun c => by
  rw [List.filter_append, List.filter_append]; by_cases hc : ∃ x ∈ a, cls x = c
  · obtain ⟨x, hx, rfl⟩ := hc; have : b.filter (fun y => cls y == cls x) = [] := List.filter_eq_nil_iff.2 (fun y hy => by have := h x hx y hy; simp; exact fun e => this e.symm); rw [this]; simp
  · have : a.filter (fun y => cls y == c) = [] := List.filter_eq_nil_iff.2 (fun y hy => by simp; exact fun e => hc ⟨y, hy, e⟩); rw [this]; simp
theorem Sw.mem {a b : List Int} (h : Sw a b) (x : Int) : x ∈ a ↔ x ∈ b := by
  have := h (cls x); (have e : ∀ l : List Int, x ∈ l ↔ x ∈ l.filter (fun y => cls y == cls x) := fun l => by simp); rw [e a, e b, this]
theorem filt_len {a b : List Int} : ∀ (n : Nat), a.length ≤ n → Sw a b → a.length ≤ b.length := by
  intro n
  induction n generalizing a b with
  | zero => intro h _; omega
  | succ n ih =>
    intro h hs
    cases a with
    | nil => simp
    | cons x t =>
      have hx : x ∈ b := (hs.mem x).1 (List.mem_cons_self ..); have h1 := hs (cls x)
      have ea : (x :: t).length = ((x :: t).filter (fun y => cls y == cls x)).length + ((x :: t).filter (fun y => !(cls y == cls x))).length := by
        rw [← List.length_append]; exact (List.filter_append_perm _ _).length_eq.symm
      have eb : b.length = (b.filter (fun y => cls y == cls x)).length + (b.filter (fun y => !(cls y == cls x))).length := by
        rw [← List.length_append]; exact (List.filter_append_perm _ _).length_eq.symm
      have hs2 : Sw ((x :: t).filter (fun y => !(cls y == cls x))) (b.filter (fun y => !(cls y == cls x))) := fun c => by
        rw [List.filter_filter, List.filter_filter]; by_cases hc : c = cls x
        · (have e : ∀ l : List Int, l.filter (fun a => (cls a == c) && !(cls a == cls x)) = [] := fun l => List.filter_eq_nil_iff.2 (fun y _ => by rw [hc]; simp)); rw [e, e]
        · have e : ∀ l : List Int, l.filter (fun a => (cls a == c) && !(cls a == cls x)) = l.filter (fun a => cls a == c) := fun l => List.filter_congr (fun y _ => by
            by_cases hy : cls y = c
            · simp [hy, hc]
            · simp [hy])
          rw [e, e]; exact hs c
      have hlt : ((x :: t).filter (fun y => !(cls y == cls x))).length ≤ n := by
        (have : ((x :: t).filter (fun y => !(cls y == cls x))) = t.filter (fun y => !(cls y == cls x)) := by simp [List.filter_cons]); rw [this]; have := List.length_filter_le (fun y => !(cls y == cls x)) t; simp at h; omega
      have := ih hlt hs2; rw [ea, eb, h1]; omega
theorem Sw.length {a b : List Int} (h : Sw a b) : a.length = b.length := Nat.le_antisymm (filt_len _ (Nat.le_refl _) h) (filt_len _ (Nat.le_refl _) h.symm)
theorem Srt.append {a b : List Int} (ha : Srt a) (hb : Srt b) (h : ∀ x ∈ a, ∀ y ∈ b, cls x ≤ cls y) : Srt (a ++ b) := List.pairwise_append.2 ⟨ha, hb, h⟩
theorem unique : ∀ (a b : List Int), Srt a → Srt b → Sw a b → a = b
  | [], b, _, _, h => by
    cases b with
    | nil => rfl
    | cons y t => exact absurd ((h.mem y).2 (List.mem_cons_self ..)) (by simp)
  | x :: a, [], _, _, h => absurd ((h.mem x).1 (List.mem_cons_self ..)) (by simp)
  | x :: a, y :: b, ha, hb, h => by
    have ha1 := List.pairwise_cons.1 ha; have hb1 := List.pairwise_cons.1 hb
    have h1 : cls y ≤ cls x := by
      rcases List.mem_cons.1 ((h.mem x).1 (List.mem_cons_self ..)) with e | e
      · rw [e]; exact Int.le_refl _
      · exact hb1.1 x e
    have h2 : cls x ≤ cls y := by
      rcases List.mem_cons.1 ((h.mem y).2 (List.mem_cons_self ..)) with e | e
      · rw [e]; exact Int.le_refl _
      · exact ha1.1 y e
    have hk : cls x = cls y := Int.le_antisymm h2 h1; have h3 := h (cls x); rw [List.filter_cons, List.filter_cons, hk] at h3; simp only [beq_self_eq_true, if_true] at h3; obtain ⟨rfl, h4⟩ := List.cons.inj h3
    have ht : Sw a b := fun c => by
      have := h c; rw [List.filter_cons, List.filter_cons] at this; by_cases hc : cls x = c
      · have hc' : (cls x == c) = true := beq_iff_eq.2 hc; simp only [hc', if_true] at this; exact (List.cons.inj this).2
      · have hc' : (cls x == c) = false := beq_eq_false_iff_ne.2 hc; simp only [hc', Bool.false_eq_true, if_false] at this; exact this
    rw [unique a b ha1.2 hb1.2 ht]
def ins (x : Int) : List Int → List Int
  | [] => [x]
  | y :: r => if cls x ≠ 0 ∧ cls x < cls y then y :: ins x r else x :: y :: r
def ordR (l : List Int) : List Int := l.foldl (fun acc x => ins x acc) []
def ordL (l : List Int) : List Int := (ordR l).reverse
theorem ins_zero {x : Int} (h : cls x = 0) (r : List Int) : ins x r = x :: r := by
  cases r with
  | nil => rfl
  | cons y r => rw [ins, if_neg (fun k => k.1 h)]
theorem cls_nonneg (x : Int) : 0 ≤ cls x := by
  have key : ∀ l : List (Int × Int × Int), (∀ p ∈ l, 0 ≤ p.2.2) → 0 ≤ clsF x l := by
    intro l
    induction l with
    | nil => intro _; exact Int.le_refl _
    | cons p t ih =>
      intro h; rw [clsF]; split
      · exact h p (List.mem_cons_self ..)
      · exact ih (fun q hq => h q (List.mem_cons_of_mem _ hq))
  exact key clsT (fun p hp => (cls_small p hp).1)
theorem ins_append (x : Int) {r s : List Int} (hs : s = [] ∨ ∃ z t, s = z :: t ∧ cls z = 0) : ins x (r ++ s) = ins x r ++ s := by
  induction r with
  | nil =>
    rcases hs with rfl | ⟨z, t, rfl, hz⟩
    · rfl
    · have hx := cls_nonneg x; (have hn : ¬ (cls x ≠ 0 ∧ cls x < cls z) := fun k => by have := k.2; omega); (show ins x (z :: t) = x :: z :: t); rw [ins, if_neg hn]
  | cons y r ih =>
    rw [List.cons_append, ins, ins, ih]; split <;> rfl
theorem fold_append {s : List Int} (hs : s = [] ∨ ∃ z t, s = z :: t ∧ cls z = 0) : ∀ (l r : List Int), l.foldl (fun acc x => ins x acc) (r ++ s) = l.foldl (fun acc x => ins x acc) r ++ s
  | [], _ => rfl
  | x :: l, r => by rw [List.foldl_cons, List.foldl_cons, ins_append x hs, fold_append hs l]
theorem ordL_starter (a b : List Int) {z : Int} (hz : cls z = 0) : ordL (a ++ z :: b) = ordL a ++ z :: ordL b := by
  unfold ordL ordR; rw [List.foldl_append, List.foldl_cons, ins_zero hz]; have := fold_append (.inr ⟨z, a.foldl (fun acc x => ins x acc) [], rfl, hz⟩) b []; rw [List.nil_append] at this; rw [this, List.reverse_append, List.reverse_cons, List.append_assoc]
  rfl
theorem ins_sw (x : Int) (r : List Int) : Sw (ins x r).reverse (r.reverse ++ [x]) := by
  induction r with
  | nil => exact Sw.refl _
  | cons y r ih =>
    rw [ins]; split
    · rename_i h; rw [List.reverse_cons, List.reverse_cons]; refine (ih.append (Sw.refl [y])).trans ?_; rw [List.append_assoc, List.append_assoc]; refine (Sw.refl _).append (Sw.comm (fun p hp q hq => ?_)); simp at hp hq; subst hp hq; omega
    · rw [List.reverse_cons]; exact Sw.refl _
theorem fold_sw : ∀ (l r : List Int), Sw (l.foldl (fun acc x => ins x acc) r).reverse (r.reverse ++ l)
  | [], r => by rw [List.append_nil]; exact Sw.refl _
  | x :: l, r => by
    rw [List.foldl_cons]; refine (fold_sw l _).trans ?_; have := (ins_sw x r).append (Sw.refl l); rw [List.append_assoc] at this; exact this
theorem ordL_sw (l : List Int) : Sw (ordL l) l := by have := fold_sw l []; exact this
theorem ordL_len (l : List Int) : (ordL l).length = l.length := (ordL_sw l).length
theorem ordL_mem (l : List Int) (x : Int) : x ∈ ordL l ↔ x ∈ l := (ordL_sw l).mem x
theorem ins_srt (x : Int) (hx : cls x ≠ 0) (r : List Int) (h : Srt r.reverse) : Srt (ins x r).reverse := by
  induction r with
  | nil => exact List.pairwise_singleton ..
  | cons y r ih =>
    rw [List.reverse_cons] at h; have h1 := List.pairwise_append.1 h; rw [ins]; split
    · rename_i hc; rw [List.reverse_cons]; refine Srt.append (ih h1.1) (List.pairwise_singleton ..) (fun p hp q hq => ?_); simp at hq; subst hq; have := (ins_sw x r).mem p; rw [this] at hp; rcases List.mem_append.1 hp with hp | hp
      · exact h1.2.2 p hp q (by simp)
      · simp at hp; subst hp; omega
    · rename_i hc; rw [List.reverse_cons, List.reverse_cons]; refine Srt.append h (List.pairwise_singleton ..) (fun p hp q hq => ?_); simp at hq; subst hq
      have hyq : cls y ≤ cls q := by
        by_cases h : cls q < cls y
        · exact absurd ⟨hx, h⟩ hc
        · omega
      rcases List.mem_append.1 hp with hp | hp
      · exact Int.le_trans (h1.2.2 p hp y (by simp)) hyq
      · simp at hp; subst hp; exact hyq
theorem fold_srt : ∀ (l r : List Int), (∀ x ∈ l, cls x ≠ 0) → Srt r.reverse → Srt (l.foldl (fun acc x => ins x acc) r).reverse
  | [], _, _, h => h
  | x :: l, r, hl, h => by
    rw [List.foldl_cons]; exact fold_srt l _ (fun y hy => hl y (List.mem_cons_of_mem _ hy)) (ins_srt x (hl x (List.mem_cons_self ..)) r h)
theorem ordL_run {l s : List Int} (hl : ∀ x ∈ l, cls x ≠ 0) (hs : Srt s) (h : Sw l s) : ordL l = s :=
  unique _ _ (fold_srt l [] hl List.Pairwise.nil) hs ((ordL_sw l).trans h)
theorem ordL_cut (a b : List Int) (h : b = [] ∨ (∃ z t, b = z :: t ∧ cls z = 0)) : ordL (a ++ b) = ordL a ++ ordL b := by
  rcases h with rfl | ⟨z, t, rfl, hz⟩
  · simp [ordL, ordR]
  · rw [ordL_starter a t hz]; have := ordL_starter [] t hz; rw [List.nil_append] at this; rw [this]
    rfl
end Go.Proofs.YthffpkdadffinaaDoor.Na
namespace Go.Proofs.YthffpkdadffinaaDoor.Nc
set_option linter.unusedVariables false
set_option linter.unusedSimpArgs false
open Va Na
theorem set2 (P Q R : List Int) (x y : Int) : ((P ++ x :: (Q ++ y :: R)).set P.length y).set (P.length + 1 + Q.length) x = P ++ y :: (Q ++ x :: R) := by
  rw [List.set_append_right _ _ (Nat.le_refl _), Nat.sub_self, List.set_cons_zero, List.set_append_right _ _ (by omega), show P.length + 1 + Q.length - P.length = Q.length + 1 by omega, List.set_cons_succ, List.set_append_right _ _ (Nat.le_refl _), Nat.sub_self, List.set_cons_zero]
theorem set2' (P Q R : List Int) (x y : Int) : ((P ++ x :: (Q ++ y :: R)).set (P.length + 1 + Q.length) x).set P.length y = P ++ y :: (Q ++ x :: R) := by
  rw [List.set_append_right _ _ (by omega), show P.length + 1 + Q.length - P.length = Q.length + 1 by omega, List.set_cons_succ, List.set_append_right _ _ (Nat.le_refl _), Nat.sub_self, List.set_cons_zero, List.set_append_right _ _ (Nat.le_refl _), Nat.sub_self, List.set_cons_zero]
theorem get_at (P R : List Int) (x : Int) : (P ++ x :: R).getD P.length 0 = x := by simp [List.getD_eq_getElem?_getD]
theorem get_at2 (P Q R : List Int) (x y : Int) : (P ++ x :: (Q ++ y :: R)).getD (P.length + 1 + Q.length) 0 = y := by
  simp [List.getD_eq_getElem?_getD, List.getElem?_append, show ¬ P.length + 1 + Q.length < P.length by omega, show P.length + 1 + Q.length - P.length = Q.length + 1 by omega]
structure WayL (S L : List Int) (x : Int) (R : List Int) : Prop where
  all : S = L ++ R
  less : ∀ r ∈ R, cls x < cls r
theorem WayL.start (S : List Int) (x : Int) : WayL S S x [] := ⟨by simp, by simp⟩
theorem WayL.step {S L R : List Int} {x y : Int} (h : WayL S (L ++ [y]) x R) (hy : cls x < cls y) : WayL S L x (y :: R) :=
  ⟨by rw [h.all]; simp, fun r hr => by rcases List.mem_cons.1 hr with rfl | hr; exact hy; exact h.less r hr⟩
theorem WayL.stop {S L R : List Int} {x : Int} (h : WayL S L x R) (hs : Srt S) (hl : ∀ y ∈ L, cls y ≤ cls x) : Srt (L ++ x :: R) ∧ Sw (S ++ [x]) (L ++ x :: R) := by
  have h1 := h.all; subst h1; have hp := List.pairwise_append.1 hs; refine ⟨List.pairwise_append.2 ⟨hp.1, List.pairwise_cons.2 ⟨fun r hr => Int.le_of_lt (h.less r hr), hp.2.1⟩, fun a ha b hb => ?_⟩, ?_⟩
  · rcases List.mem_cons.1 hb with rfl | hb
    · exact hl a ha
    · exact hp.2.2 a ha b hb
  · rw [List.append_assoc]; refine (Sw.refl L).append ?_; have := Sw.comm (a := R) (b := [x]) (fun r hr z hz => by simp at hz; subst hz; have := h.less r hr; omega); exact this
theorem last_le {L : List Int} {y x : Int} (hs : Srt (L ++ [y])) (h : cls y ≤ cls x) : ∀ z ∈ L ++ [y], cls z ≤ cls x := fun z hz => by
  rcases List.mem_append.1 hz with hz | hz
  · exact Int.le_trans ((List.pairwise_append.1 hs).2.2 z hz y (by simp)) h
  · simp at hz; subst hz; exact h
theorem srt_left {a b : List Int} (h : Srt (a ++ b)) : Srt a := (List.pairwise_append.1 h).1
theorem srt_right {a b : List Int} (h : Srt (a ++ b)) : Srt b := (List.pairwise_append.1 h).2.1
def K (l : List Int) (i : Nat) : Int := cls (l.getD i 0)
theorem srt_le {l : List Int} (h : Srt l) {i j : Nat} (hij : i ≤ j) (hj : j < l.length) : K l i ≤ K l j := by
  unfold K; rw [List.getD_eq_getElem?_getD, List.getD_eq_getElem?_getD, List.getElem?_eq_getElem hj, List.getElem?_eq_getElem (by omega)]; simp only [Option.getD_some]; rcases Nat.lt_or_ge i j with h1 | h1
  · exact List.pairwise_iff_getElem.1 h i j (by omega) hj h1
  · (obtain rfl : i = j := by omega); exact Int.le_refl _
theorem K_mem {l : List Int} {x : Int} (h : x ∈ l) : ∃ i, i < l.length ∧ cls x = K l i := by
  obtain ⟨i, hi, rfl⟩ := List.mem_iff_getElem.1 h; exact ⟨i, hi, by unfold K; rw [List.getD_eq_getElem?_getD, List.getElem?_eq_getElem hi]; rfl⟩
theorem K_take {l : List Int} {n i : Nat} (h : i < n) : K (l.take n) i = K l i := by unfold K; simp [List.getD_eq_getElem?_getD, List.getElem?_take, h]
theorem K_drop {l : List Int} {n i : Nat} : K (l.drop n) i = K l (n + i) := by unfold K; simp [List.getD_eq_getElem?_getD, List.getElem?_drop]
theorem K_left {a b : List Int} {i : Nat} (h : i < a.length) : K (a ++ b) i = K a i := by unfold K; simp [List.getD_eq_getElem?_getD, List.getElem?_append, h]
theorem one_left {S : List Int} {x : Int} (hs : Srt S) (t : Nat) (h1 : ∀ i, i < t → i < S.length → K S i < cls x) (h2 : ∀ i, t ≤ i → i < S.length → cls x ≤ K S i) : Srt (S.take t ++ x :: S.drop t) ∧ Sw (x :: S) (S.take t ++ x :: S.drop t) := by
  have a1 : ∀ y ∈ S.take t, cls y < cls x := fun y hy => by
    obtain ⟨i, hi, e⟩ := K_mem hy; rw [List.length_take] at hi; rw [e, K_take (by omega)]; exact h1 i (by omega) (by omega)
  have a2 : ∀ y ∈ S.drop t, cls x ≤ cls y := fun y hy => by
    obtain ⟨i, hi, e⟩ := K_mem hy; rw [List.length_drop] at hi; rw [e, K_drop]; exact h2 _ (by omega) (by omega)
  have hsp := hs; rw [← List.take_append_drop t S] at hsp; have hp := List.pairwise_append.1 hsp; refine ⟨List.pairwise_append.2 ⟨hp.1, List.pairwise_cons.2 ⟨a2, hp.2.1⟩, fun a ha b hb => ?_⟩, ?_⟩
  · rcases List.mem_cons.1 hb with rfl | hb
    · exact Int.le_of_lt (a1 a ha)
    · exact hp.2.2 a ha b hb
  · have := (Sw.comm (a := [x]) (b := S.take t) (fun z hz y hy => by simp at hz; subst hz; have := a1 y hy; omega)).append (Sw.refl (S.drop t))
    simpa using this
theorem one_right {S : List Int} {y : Int} (hs : Srt S) (t : Nat) (h1 : ∀ i, i < t → i < S.length → K S i ≤ cls y) (h2 : ∀ i, t ≤ i → i < S.length → cls y < K S i) : Srt (S.take t ++ y :: S.drop t) ∧ Sw (S ++ [y]) (S.take t ++ y :: S.drop t) := by
  have a1 : ∀ z ∈ S.take t, cls z ≤ cls y := fun z hz => by
    obtain ⟨i, hi, e⟩ := K_mem hz; rw [List.length_take] at hi; rw [e, K_take (by omega)]; exact h1 i (by omega) (by omega)
  have a2 : ∀ z ∈ S.drop t, cls y < cls z := fun z hz => by
    obtain ⟨i, hi, e⟩ := K_mem hz; rw [List.length_drop] at hi; rw [e, K_drop]; exact h2 _ (by omega) (by omega)
  exact WayL.stop (S := S) ⟨(List.take_append_drop t S).symm, a2⟩ hs a1
theorem halves {P U V Q X Y : List Int} (h1 : Srt (P ++ U)) (h2 : Srt (V ++ Q)) (hpq : ∀ p ∈ P, ∀ q ∈ Q, cls p ≤ cls q) (hvu : ∀ v ∈ V, ∀ u ∈ U, cls v < cls u) (hx : Srt X) (hxs : Sw (P ++ V) X) (hy : Srt Y) (hys : Sw (U ++ Q) Y) :
    Srt (X ++ Y) ∧ Sw (P ++ U ++ (V ++ Q)) (X ++ Y) := by
  have hp1 := List.pairwise_append.1 h1; have hp2 := List.pairwise_append.1 h2; refine ⟨List.pairwise_append.2 ⟨hx, hy, fun a ha b hb => ?_⟩, ?_⟩
  · rcases List.mem_append.1 ((hxs.mem a).2 ha) with ha | ha <;> rcases List.mem_append.1 ((hys.mem b).2 hb) with hb | hb
    · exact hp1.2.2 a ha b hb
    · exact hpq a ha b hb
    · exact Int.le_of_lt (hvu a ha b hb)
    · exact hp2.2.2 a ha b hb
  · refine Sw.trans ?_ (hxs.append hys); have h := (Sw.refl P).append ((Sw.comm (a := U) (b := V) (fun u hu v hv => by have := hvu v hv u hu; omega)).append (Sw.refl Q))
    simpa using h
theorem parted {S1 S2 : List Int} {s e : Nat} (h1 : Srt S1) (h2 : Srt S2) (hs : s ≤ S1.length) (he : e ≤ S2.length)
    (g : 0 < s → e < S2.length → K S1 (s - 1) ≤ K S2 e) (b : s < S1.length → 0 < e → K S2 (e - 1) < K S1 s) :
    (∀ p ∈ S1.take s, ∀ q ∈ S2.drop e, cls p ≤ cls q) ∧ (∀ v ∈ S2.take e, ∀ u ∈ S1.drop s, cls v < cls u) := by
  constructor
  · intro p hp q hq; obtain ⟨i, hi, e1⟩ := K_mem hp; obtain ⟨j, hj, e2⟩ := K_mem hq; rw [List.length_take] at hi; rw [List.length_drop] at hj; rw [e1, e2, K_take (by omega), K_drop]; exact Int.le_trans (srt_le h1 (show i ≤ s - 1 by omega) (by omega)) (Int.le_trans (g (by omega) (by omega)) (srt_le h2 (by omega) (by omega)))
  · intro v hv u hu; obtain ⟨i, hi, e1⟩ := K_mem hv; obtain ⟨j, hj, e2⟩ := K_mem hu; rw [List.length_take] at hi; rw [List.length_drop] at hj; rw [e1, e2, K_take (by omega), K_drop]; exact Int.lt_of_le_of_lt (srt_le h2 (show i ≤ e - 1 by omega) (by omega)) (Int.lt_of_lt_of_le (b (by omega) (by omega)) (srt_le h1 (by omega) (by omega)))
end Go.Proofs.YthffpkdadffinaaDoor.Nc
namespace Go.Proofs.YthffpkdadffinaaDoor.Nb
set_option linter.unusedVariables false
set_option linter.unusedSimpArgs false
open Go.RowKit YthffpkdadffinaaDoorW.PrintWords Hp Va
def Reg (w : World) (g : Nat) (pre post : List Value) (xs : List Int) : Prop := w.heap[g]? = some (.cells (pre ++ nums .i32 xs ++ post).toArray 21 (0, 0))
section
variable {w w' : World} {g : Nat} {pre post : List Value} {xs : List Int}
theorem Reg.at_ (h : Reg w g pre post xs) (i : Nat) (hi : i < xs.length) : w.cell? ⟨g, pre.length + i, none⟩ = some (.int .i32 (xs.getD i 0)) := by
  rw [blk_cell h]; rw [List.getElem?_toArray, List.append_assoc, List.getElem?_append_right (by omega), List.getElem?_append_left (by simp [nums]; omega)]; simp [nums, List.getElem?_eq_getElem hi]
theorem Reg.free (h : Reg w g pre post xs) (i : Nat) : w.frozen? ⟨g, i, none⟩ = false := blk_frozen h i
theorem Reg.set (h : Reg w g pre post xs) (i : Nat) (hi : i < xs.length) (v : Int) : Reg (w.setCell ⟨g, pre.length + i, none⟩ (.int .i32 v)) g pre post (xs.set i v) := by
  refine blk_put h _ _ ?_; apply Array.ext'; rw [Array.toList_setIfInBounds]; simp only []; rw [List.append_assoc, List.append_assoc, List.set_append_right _ _ (by omega), List.set_append_left _ _ (by simp [nums]; omega)]; simp [nums, List.map_set]
theorem Reg.below (h : Reg w g pre post xs) (c : Below w.heap.size w w') : Reg w' g pre post xs := blk_below h c
theorem Reg.drewN (h : Reg w g pre post xs) (n : Nat) : Reg (w.drewN n) g pre post xs := h
theorem Reg.drew (h : Reg w g pre post xs) : Reg w.drew g pre post xs := h
theorem Reg.lt (h : Reg w g pre post xs) : g < w.heap.size := blk_lt h
theorem Reg.of_row {base n c : Nat} {ok : Nat → Prop} {v : Value} (h : Kd.R (Kd.int .i32) 21 w base ok v xs) : (xs = [] ∧ ∃ n, v = .slice none n 0 ∧ n = 0) ∨ ∃ g cap post, v = .slice (some ⟨g, 0, none⟩) xs.length cap ∧ xs.length ≤ cap ∧ cap ≤ maxLen ∧ cap = xs.length + post.length ∧ base ≤ g ∧ Reg w g [] post xs := by
  obtain ⟨_, inner, ⟨hl, ho⟩, hr⟩ := h
  have hin : inner = nums .i32 xs := by
    (refine List.ext_getElem (by rw [hr.1]; simp only [nums, List.length_map]; exact Nat.mul_one _) fun i h1 h2 => ?_); (have hi : i < xs.length := by simpa [nums] using h2); have := hr.2 i xs[i] (List.getElem?_eq_getElem hi); have e : (List.take 1 (List.drop (i * 1) inner)) = [.int .i32 xs[i]] := this; rw [Nat.mul_one, List.drop_eq_getElem_cons h1, List.take_succ_cons, List.take_zero] at e; rw [(List.cons.inj e).1]; simp [nums]
  rcases ho with ⟨rfl, h0⟩ | ⟨g, cap, cur, rfl, hb, hh, hnc, hcm, hcs, ht⟩
  · exact .inl ⟨List.eq_nil_of_length_eq_zero h0, 0, rfl, rfl⟩
  · refine .inr ⟨g, cap, cur.toList.drop xs.length, rfl, hnc, hcm, ?_, hb, ?_⟩
    · have : cur.size = cap * 1 := hcs; simp; omega
    · have e : cur.toList.take xs.length = nums .i32 xs := by
        have : cur.toList.take (xs.length * 1) = inner := ht; rw [Nat.mul_one] at this; rw [this, hin]
      unfold Reg; rw [List.nil_append, ← e, List.take_append_drop]; exact hh
theorem Reg.to_row {base cap : Nat} {ok : Nat → Prop} (h : Reg w g [] post xs) (hb : base ≤ g) (hok : ok g) (hcm : cap ≤ maxLen) (hc : cap = xs.length + post.length) : Kd.R (Kd.int .i32) 21 w base ok (.slice (some ⟨g, 0, none⟩) xs.length cap) xs := by
  refine ⟨fun k hk => ?_, nums .i32 xs, ⟨by simp only [nums, List.length_map]; exact (Nat.mul_one _).symm, .inr ⟨g, cap, _, rfl, hb, h, by omega, hcm, ?_, ?_⟩⟩, ⟨by simp only [nums, List.length_map]; exact (Nat.mul_one _).symm, fun j p hj => ?_⟩⟩
  · (have : g = k := by simpa [Value.ownBlock] using hk); exact this ▸ hok
  · (show _ = cap * 1); simp [nums]; omega
  · (show List.take (xs.length * 1) _ = _); rw [Nat.mul_one]; simp [nums]
  · obtain ⟨hjl, rfl⟩ := List.getElem?_eq_some_iff.1 hj; (show List.take 1 (List.drop (j * 1) (nums .i32 xs)) = [.int .i32 xs[j]]); (have hjn : j < (nums .i32 xs).length := by simpa [nums] using hjl); rw [Nat.mul_one, List.drop_eq_getElem_cons hjn, List.take_succ_cons, List.take_zero]; simp [nums]
theorem Reg.two {P Q R : List Int} {x y : Int} (h : Reg w g pre post (P ++ x :: (Q ++ y :: R))) {off p q : Nat} (ho : off = pre.length) (hp : p = P.length) (hq : q = P.length + 1 + Q.length) :
    w.cell? ⟨g, off + p, none⟩ = some (.int .i32 x) ∧ w.cell? ⟨g, off + q, none⟩ = some (.int .i32 y) ∧
    Reg ((w.setCell ⟨g, off + p, none⟩ (.int .i32 y)).setCell ⟨g, off + q, none⟩ (.int .i32 x)) g pre post (P ++ y :: (Q ++ x :: R)) ∧
    Reg ((w.setCell ⟨g, off + q, none⟩ (.int .i32 x)).setCell ⟨g, off + p, none⟩ (.int .i32 y)) g pre post (P ++ y :: (Q ++ x :: R)) := by
  subst ho hp hq; refine ⟨?_, ?_, ?_, ?_⟩
  · have := h.at_ P.length (by simp); rw [Nc.get_at] at this; exact this
  · have := h.at_ (P.length + 1 + Q.length) (by simp; omega); rw [Nc.get_at2] at this; exact this
  · have h1 := (h.set P.length (by simp) y).set (P.length + 1 + Q.length) (by simp; omega) x; rw [Nc.set2] at h1; exact h1
  · have h1 := (h.set (P.length + 1 + Q.length) (by simp; omega) x).set P.length (by simp) y; rw [Nc.set2'] at h1; exact h1
theorem G_chg {S : Nat → Prop} (h : G w) (c : Chg S w w') (hS : ∀ k, k < 3 → ¬ S k) : G w' :=
  ⟨fun j v hv => cell_chg (h.1 j v hv) c (hS 1 (by decide)), fun j v hv => cell_chg (h.2.1 j v hv) c (hS 0 (by decide)), fun j v hv => cell_chg (h.2.2 j v hv) c (hS 2 (by decide))⟩
theorem G_size (h : G w) : 3 ≤ w.heap.size := by
  have := h.2.2 0 (.int .i32 768) rfl; have := World.block_lt_of_cell? w _ this; exact this
end
structure Aft (w : World) where
  w' : World
  hb : Below w.heap.size w w'
instance (w : World) : Inhabited (Aft w) := ⟨⟨w, Below.refl _ _⟩⟩
theorem wp_region_aft {P : Program} {id : Nat} {Q : Exit → Act → World → Prop} {a : Act} {w : World} {l : List Oper} (hm : P.follows .mixedOrders = true) (hB : Region.lexB .any l.toArray = true)
    (h : wpQuiet P l.toArray (fun w2 => ∃ p : Aft w, w2 = p.w') (fun a' => ∀ w2, (∃ p : Aft w, w2 = p.w') → Q .normal a' w2) l a) : (Code.region id l.toArray true).wp P Q a w :=
  wp_region_quiet (C := fun w2 => ∃ p : Aft w, w2 = p.w') hm hB ⟨⟨w.drew, below_drew (Below.refl _ _)⟩, rfl⟩ (by simpa using h)
theorem Aft.cell {w : World} (p : Aft w) {a : Addr} {v : Value} (h : w.cell? a = some v) : p.w'.cell? a = some v := (p.hb.cell (World.block_lt_of_cell? w a h)).trans h
theorem aft_of {P : Program} {f : FuncId} {args : Array Value} {w : World} {p : Aft w} {v : Value} (h : Calls P f args p.w' fun e w' => e = .returned v ∧ Below p.w'.heap.size p.w' w') : Calls P f args p.w' fun e w'' => e = .returned v ∧ ∃ q : Aft w, w'' = q.w' :=
  h.mono fun _ w2 ⟨he, hb⟩ => ⟨he, ⟨w2, below_then p.hb p.hb.size hb⟩, rfl⟩
end Go.Proofs.YthffpkdadffinaaDoor.Nb
namespace Go.Proofs.YthffpkdadffinaaDoor.X
open Go.RowKit YthffpkdadffinaaDoorW.PrintWords YthffpkdadffinaaDoorW.PrintLast YthffpkdadffinaaDoorW.PrintMore
attribute [local go_sem] max2_int min2_int max_two min_two max_three min_three max_four min_four   
set_option linter.unusedVariables false
set_option linter.unusedSimpArgs false
def errW : Option Int → Value
  | none => .nilIface
  | some c => .iface 0 (.int .i64 c)
theorem errW_none : errW none = .nilIface := rfl
theorem errW_some (c : Int) : errW (some c) = .iface 0 (.int .i64 c) := rfl
theorem info3 : (Tryd.prog.info? 3).map (fun i => (i.zero, i.size, i.bytes)) = some (some (.int .i64 0), 1, 8) := by kernel_rfl
theorem info5 : (Tryd.prog.info? 5).map (fun i => (i.zero, i.size, i.bytes)) = some (some (.int .u8 0), 1, 1) := by kernel_rfl
theorem info9 : (Tryd.prog.info? 9).map (fun i => (i.zero, i.size, i.bytes)) = some (some (.string ⟨#[]⟩), 1, 16) := by kernel_rfl
theorem info21 : (Tryd.prog.info? 21).map (fun i => (i.zero, i.size, i.bytes)) = some (some (.int .i32 0), 1, 4) := by kernel_rfl
theorem info60 : (Tryd.prog.info? 60).map (fun i => (i.zero, i.size, i.bytes)) = some (some (.agg #[(.string ⟨#[]⟩), (.int .i64 0), (.int .i64 0), (.int .i64 0), (.int .i64 0)]), 5, 48) := by kernel_rfl
theorem info67 : (Tryd.prog.info? 67).map (fun i => (i.zero, i.size, i.bytes)) = some (some (.agg #[(.string ⟨#[]⟩), (.int .i64 0), (.int .i64 0)]), 3, 32) := by kernel_rfl
theorem info103 : (Tryd.prog.info? 103).map (fun i => (i.zero, i.size, i.bytes)) = some (some (.agg #[(.int .i32 0), (.int .i64 0), (.int .i64 0)]), 3, 24) := by kernel_rfl
structure S46 where
  f0 : Int
  f1 : Int
def z46 : S46 := ⟨(0 : Int), (0 : Int)⟩
def k46 : Kd S46 := Kd.iso (Kd.pair (Kd.int .i32) (Kd.int .i32)) (fun x : S46 => (x.f0, x.f1))
theorem k46_open {w : World} {x : S46} {cs : List Value} (h : k46.K w x cs) : cs = [.int .i32 x.f0, .int .i32 x.f1] := by
  obtain ⟨_, _, rfl, rfl, rfl⟩ := h; exact rfl
theorem k46_mkM (w : World) (base : Nat) (ok : Nat → Prop) (x : S46)  : k46.M w base ok x [.int .i32 x.f0, .int .i32 x.f1] := ⟨[.int .i32 x.f0], [.int .i32 x.f1], rfl, rfl, rfl⟩
def rd_T46 (xs : List S46) (i : Int) : S46 := xs.getD i.toNat z46
theorem at_T46 {w : World} {A : Option Addr} {n : Nat} {xs : List S46} (h : Kd.C k46 w A n xs) (i : Int) (h0 : 0 ≤ i) (h1 : i < n) : ∃ ad , A = some ad ∧ w.cell? (ad.add (i.toNat * 2)) = some (.int .i32 (rd_T46 xs i).f0) ∧ w.cell? ⟨(ad.add (i.toNat * 2)).block, (ad.add (i.toNat * 2)).off + 1, none⟩ = some (.int .i32 (rd_T46 xs i).f1) := by
  obtain ⟨ad, c, e, _, hK, hc0⟩ := Kd.C_get h z46 i h0 h1; have hc : ∀ j u, c[j]? = some u → w.cell? (ad.add (i.toNat * 2 + j)) = some u := hc0; obtain rfl := k46_open hK; exact ⟨ad, e, hc 0 _ rfl, by rw [← add_field _ _ 1 (by omega)]; exact hc 1 _ rfl⟩
structure S103 where
  f0 : Int
  f1 : Int
  f2 : Int
def z103 : S103 := ⟨(0 : Int), (0 : Int), (0 : Int)⟩
def k103 : Kd S103 := Kd.iso (Kd.pair (Kd.int .i32) (Kd.pair (Kd.int .i64) (Kd.int .i64))) (fun x : S103 => (x.f0, x.f1, x.f2))
theorem k103_open {w : World} {x : S103} {cs : List Value} (h : k103.K w x cs) : cs = [.int .i32 x.f0, .int .i64 x.f1, .int .i64 x.f2] := by
  obtain ⟨_, _, rfl, rfl, ⟨_, _, rfl, rfl, rfl⟩⟩ := h; exact rfl
theorem k103_mkM (w : World) (base : Nat) (ok : Nat → Prop) (x : S103)  : k103.M w base ok x [.int .i32 x.f0, .int .i64 x.f1, .int .i64 x.f2] := ⟨[.int .i32 x.f0], [.int .i64 x.f1, .int .i64 x.f2], rfl, rfl, ⟨[.int .i64 x.f1], [.int .i64 x.f2], rfl, rfl, rfl⟩⟩
def rd_T103 (xs : List S103) (i : Int) : S103 := xs.getD i.toNat z103
theorem at_T103 {w : World} {A : Option Addr} {n : Nat} {xs : List S103} (h : Kd.C k103 w A n xs) (i : Int) (h0 : 0 ≤ i) (h1 : i < n) : ∃ ad , A = some ad ∧ w.cell? (ad.add (i.toNat * 3)) = some (.int .i32 (rd_T103 xs i).f0) ∧ w.cell? ⟨(ad.add (i.toNat * 3)).block, (ad.add (i.toNat * 3)).off + 1, none⟩ = some (.int .i64 (rd_T103 xs i).f1) ∧ w.cell? ⟨(ad.add (i.toNat * 3)).block, (ad.add (i.toNat * 3)).off + 2, none⟩ = some (.int .i64 (rd_T103 xs i).f2) := by
  obtain ⟨ad, c, e, _, hK, hc0⟩ := Kd.C_get h z103 i h0 h1; have hc : ∀ j u, c[j]? = some u → w.cell? (ad.add (i.toNat * 3 + j)) = some u := hc0; obtain rfl := k103_open hK; exact ⟨ad, e, hc 0 _ rfl, by rw [← add_field _ _ 1 (by omega)]; exact hc 1 _ rfl, by rw [← add_field _ _ 2 (by omega)]; exact hc 2 _ rfl⟩
structure S67 where
  f0 : ByteArray
  f1 : Int
  f2 : Int
def z67 : S67 := ⟨(⟨#[]⟩ : ByteArray), (0 : Int), (0 : Int)⟩
def k67 : Kd S67 := Kd.iso (Kd.pair Kd.string (Kd.pair (Kd.int .i64) (Kd.int .i64))) (fun x : S67 => (x.f0, x.f1, x.f2))
theorem k67_open {w : World} {x : S67} {cs : List Value} (h : k67.K w x cs) : cs = [.string x.f0, .int .i64 x.f1, .int .i64 x.f2] := by
  obtain ⟨_, _, rfl, rfl, ⟨_, _, rfl, rfl, rfl⟩⟩ := h; exact rfl
theorem k67_mkM (w : World) (base : Nat) (ok : Nat → Prop) (x : S67)  : k67.M w base ok x [.string x.f0, .int .i64 x.f1, .int .i64 x.f2] := ⟨[.string x.f0], [.int .i64 x.f1, .int .i64 x.f2], rfl, rfl, ⟨[.int .i64 x.f1], [.int .i64 x.f2], rfl, rfl, rfl⟩⟩
def rd_T67 (xs : List S67) (i : Int) : S67 := xs.getD i.toNat z67
theorem at_T67 {w : World} {A : Option Addr} {n : Nat} {xs : List S67} (h : Kd.C k67 w A n xs) (i : Int) (h0 : 0 ≤ i) (h1 : i < n) : ∃ ad , A = some ad ∧ w.cell? (ad.add (i.toNat * 3)) = some (.string (rd_T67 xs i).f0) ∧ w.cell? ⟨(ad.add (i.toNat * 3)).block, (ad.add (i.toNat * 3)).off + 1, none⟩ = some (.int .i64 (rd_T67 xs i).f1) ∧ w.cell? ⟨(ad.add (i.toNat * 3)).block, (ad.add (i.toNat * 3)).off + 2, none⟩ = some (.int .i64 (rd_T67 xs i).f2) := by
  obtain ⟨ad, c, e, _, hK, hc0⟩ := Kd.C_get h z67 i h0 h1; have hc : ∀ j u, c[j]? = some u → w.cell? (ad.add (i.toNat * 3 + j)) = some u := hc0; obtain rfl := k67_open hK; exact ⟨ad, e, hc 0 _ rfl, by rw [← add_field _ _ 1 (by omega)]; exact hc 1 _ rfl, by rw [← add_field _ _ 2 (by omega)]; exact hc 2 _ rfl⟩
structure S58 where
  f0 : Int
  f1 : Int
  f2 : Int
  f3 : Int
def z58 : S58 := ⟨(0 : Int), (0 : Int), (0 : Int), (0 : Int)⟩
def k58 : Kd S58 := Kd.iso (Kd.pair (Kd.int .i64) (Kd.pair (Kd.int .i64) (Kd.pair (Kd.int .i64) (Kd.int .i64)))) (fun x : S58 => (x.f0, x.f1, x.f2, x.f3))
theorem k58_open {w : World} {x : S58} {cs : List Value} (h : k58.K w x cs) : cs = [.int .i64 x.f0, .int .i64 x.f1, .int .i64 x.f2, .int .i64 x.f3] := by
  obtain ⟨_, _, rfl, rfl, ⟨_, _, rfl, rfl, ⟨_, _, rfl, rfl, rfl⟩⟩⟩ := h; exact rfl
theorem k58_openM {w : World} {base : Nat} {ok : Nat → Prop} {x : S58} {cs : List Value} (h : k58.M w base ok x cs) : cs = [.int .i64 x.f0, .int .i64 x.f1, .int .i64 x.f2, .int .i64 x.f3] := by
  obtain ⟨_, _, rfl, rfl, ⟨_, _, rfl, rfl, ⟨_, _, rfl, rfl, rfl⟩⟩⟩ := h; exact rfl
theorem k58_mkM (w : World) (base : Nat) (ok : Nat → Prop) (x : S58)  : k58.M w base ok x [.int .i64 x.f0, .int .i64 x.f1, .int .i64 x.f2, .int .i64 x.f3] := ⟨[.int .i64 x.f0], [.int .i64 x.f1, .int .i64 x.f2, .int .i64 x.f3], rfl, rfl, ⟨[.int .i64 x.f1], [.int .i64 x.f2, .int .i64 x.f3], rfl, rfl, ⟨[.int .i64 x.f2], [.int .i64 x.f3], rfl, rfl, rfl⟩⟩⟩
structure S60 where
  f0 : ByteArray
  f1 : S58
def z60 : S60 := ⟨(⟨#[]⟩ : ByteArray), z58⟩
def k60 : Kd S60 := Kd.iso (Kd.pair Kd.string k58) (fun x : S60 => (x.f0, x.f1))
theorem k60_open {w : World} {x : S60} {cs : List Value} (h : k60.K w x cs) : cs = [.string x.f0, .int .i64 x.f1.f0, .int .i64 x.f1.f1, .int .i64 x.f1.f2, .int .i64 x.f1.f3] := by
  obtain ⟨_, _, rfl, rfl, s1⟩ := h; obtain rfl := k58_open s1; exact rfl
theorem k60_openM {w : World} {base : Nat} {ok : Nat → Prop} {x : S60} {cs : List Value} (h : k60.M w base ok x cs) : cs = [.string x.f0, .int .i64 x.f1.f0, .int .i64 x.f1.f1, .int .i64 x.f1.f2, .int .i64 x.f1.f3] := by
  obtain ⟨_, _, rfl, rfl, s1⟩ := h; obtain rfl := k58_openM s1; exact rfl
theorem k60_mkM (w : World) (base : Nat) (ok : Nat → Prop) (x : S60)  : k60.M w base ok x [.string x.f0, .int .i64 x.f1.f0, .int .i64 x.f1.f1, .int .i64 x.f1.f2, .int .i64 x.f1.f3] := ⟨[.string x.f0], [.int .i64 x.f1.f0, .int .i64 x.f1.f1, .int .i64 x.f1.f2, .int .i64 x.f1.f3], rfl, rfl, (k58_mkM w base ok x.f1 )⟩
def rd_T60 (xs : List S60) (i : Int) : S60 := xs.getD i.toNat z60
theorem at_T60 {w : World} {A : Option Addr} {n : Nat} {xs : List S60} (h : Kd.C k60 w A n xs) (i : Int) (h0 : 0 ≤ i) (h1 : i < n) : ∃ ad , A = some ad ∧ w.cell? (ad.add (i.toNat * 5)) = some (.string (rd_T60 xs i).f0) ∧ w.cell? ⟨(ad.add (i.toNat * 5)).block, (ad.add (i.toNat * 5)).off + 1, none⟩ = some (.int .i64 (rd_T60 xs i).f1.f0) ∧ w.cell? ⟨(ad.add (i.toNat * 5)).block, (ad.add (i.toNat * 5)).off + 2, none⟩ = some (.int .i64 (rd_T60 xs i).f1.f1) ∧ w.cell? ⟨(ad.add (i.toNat * 5)).block, (ad.add (i.toNat * 5)).off + 3, none⟩ = some (.int .i64 (rd_T60 xs i).f1.f2) ∧ w.cell? ⟨(ad.add (i.toNat * 5)).block, (ad.add (i.toNat * 5)).off + 4, none⟩ = some (.int .i64 (rd_T60 xs i).f1.f3) := by
  obtain ⟨ad, c, e, _, hK, hc0⟩ := Kd.C_get h z60 i h0 h1; have hc : ∀ j u, c[j]? = some u → w.cell? (ad.add (i.toNat * 5 + j)) = some u := hc0; obtain rfl := k60_open hK; exact ⟨ad, e, hc 0 _ rfl, by rw [← add_field _ _ 1 (by omega)]; exact hc 1 _ rfl, by rw [← add_field _ _ 2 (by omega)]; exact hc 2 _ rfl, by rw [← add_field _ _ 3 (by omega)]; exact hc 3 _ rfl, by rw [← add_field _ _ 4 (by omega)]; exact hc 4 _ rfl⟩
end Go.Proofs.YthffpkdadffinaaDoor.X
namespace Go.Proofs.YthffpkdadffinaaDoor.X
open Go.RowKit YthffpkdadffinaaDoorW.PrintWords YthffpkdadffinaaDoorW.PrintLast YthffpkdadffinaaDoorW.PrintMore
attribute [local go_sem] max2_int min2_int max_two min_two max_three min_three max_four min_four   
set_option linter.unusedVariables false
set_option linter.unusedSimpArgs false
def cmp_isNaN_int.f (a0 : Int) : Option (Bool) := some (a0 != a0)
set_option maxHeartbeats 8000000 in
set_option maxRecDepth 100000 in
theorem cmp_isNaN_int.calls (a0 : Int) (r : Bool) (w : World) (h : cmp_isNaN_int.f a0 = some r) :
  Calls Tryd.prog 124 #[.int .i64 a0] w fun e w' => e = .returned (.bool r) ∧ Drawn0 w w' := by
 have H : (some (a0 != a0)) = some r := h; clear h; obtain rfl := Option.some.inj H; go_enter Tryd.func124, Tryd.ntmps124; go_wp2; go_ret; exact ⟨by first | rfl | (simp; done) | (simp [*]; done), by repeat (first | exact Drawn0.refl _ | apply Drawn0.step)⟩
end Go.Proofs.YthffpkdadffinaaDoor.X
namespace Go.Proofs.YthffpkdadffinaaDoor.X
open Go.RowKit YthffpkdadffinaaDoorW.PrintWords YthffpkdadffinaaDoorW.PrintLast YthffpkdadffinaaDoorW.PrintMore
attribute [local go_sem] max2_int min2_int max_two min_two max_three min_three max_four min_four   
set_option linter.unusedVariables false
set_option linter.unusedSimpArgs false
def cmp_Compare_int.f (a0 : Int) (a1 : Int) : Option (Int) := (cmp_isNaN_int.f a0).bind fun t101 => ((cmp_isNaN_int.f a1).bind fun t102 => (if t101 = true then (if t102 = true then (some 0) else (some (-1))) else (if t102 = true then (some 1) else (if a0 < a1 then (some (-1)) else (if a0 > a1 then (some 1) else (some 0))))))
set_option maxHeartbeats 8000000 in
set_option maxRecDepth 100000 in
theorem cmp_Compare_int.calls (a0 : Int) (a1 : Int) (r : Int) (w : World) (h : cmp_Compare_int.f a0 a1 = some r) :
  Calls Tryd.prog 111 #[.int .i64 a0, .int .i64 a1] w fun e w' => e = .returned (.int .i64 r) ∧ Drawn0 w w' := by
 have H : ((cmp_isNaN_int.f a0).bind fun t101 => ((cmp_isNaN_int.f a1).bind fun t102 => (if t101 = true then (if t102 = true then (some 0) else (some (-1))) else (if t102 = true then (some 1) else (if a0 < a1 then (some (-1)) else (if a0 > a1 then (some 1) else (some 0))))))) = some r := h; clear h; replace H := Option.bind_eq_some_iff.mp H; obtain ⟨t101, A30, H⟩ := H; (try dsimp only at H); have A3 := Aside0.mk A30; clear A30; replace H := Option.bind_eq_some_iff.mp H; obtain ⟨t102, A40, H⟩ := H; (try dsimp only at H); have A4 := Aside0.mk A40; clear A40; by_cases c5 : t101 = true
 ·subst c5; rw [if_pos rfl] at H; by_cases c6 : t102 = true
  ·subst c6; rw [if_pos rfl] at H; obtain rfl := Option.some.inj H; go_enter Tryd.func111, Tryd.ntmps111; go_wp2_with (first | ((with_reducible refine gate_callee (f := 124) rfl ?_); refine goesL_ (some 8) rfl rfl Tryd.func124 (by kernel_rfl) rfl #[.int .i64 a0] rfl (by (try simp only [List.map_toArray, List.map_cons, List.map_nil]); first | done | rfl | (simp only [List.length_drop, List.length_take]; rfl)) ?_; (with_reducible refine (cmp_isNaN_int.calls a0 true _ A3.out).mono ?_); rintro e w' ⟨rfl, ⟨nd, rfl⟩⟩; refine ⟨_, rfl, ?_⟩) | ((with_reducible refine gate_callee (f := 124) rfl ?_); refine goesL_ (some 10) rfl rfl Tryd.func124 (by kernel_rfl) rfl #[.int .i64 a1] rfl (by (try simp only [List.map_toArray, List.map_cons, List.map_nil]); first | done | rfl | (simp only [List.length_drop, List.length_take]; rfl)) ?_; (with_reducible refine (cmp_isNaN_int.calls a1 true _ A4.out).mono ?_); rintro e w' ⟨rfl, ⟨nd, rfl⟩⟩; refine ⟨_, rfl, ?_⟩)); go_ret; exact ⟨by first | rfl | (simp; done) | (simp [*]; done), by repeat (first | exact Drawn0.refl _ | apply Drawn0.step)⟩
  ·replace c6 := Bool.eq_false_iff.mpr c6; subst c6; rw [if_neg (show ¬ (false = true) by decide)] at H; obtain rfl := Option.some.inj H; go_enter Tryd.func111, Tryd.ntmps111; go_wp2_with (first | ((with_reducible refine gate_callee (f := 124) rfl ?_); refine goesL_ (some 8) rfl rfl Tryd.func124 (by kernel_rfl) rfl #[.int .i64 a0] rfl (by (try simp only [List.map_toArray, List.map_cons, List.map_nil]); first | done | rfl | (simp only [List.length_drop, List.length_take]; rfl)) ?_; (with_reducible refine (cmp_isNaN_int.calls a0 true _ A3.out).mono ?_); rintro e w' ⟨rfl, ⟨nd, rfl⟩⟩; refine ⟨_, rfl, ?_⟩) | ((with_reducible refine gate_callee (f := 124) rfl ?_); refine goesL_ (some 10) rfl rfl Tryd.func124 (by kernel_rfl) rfl #[.int .i64 a1] rfl (by (try simp only [List.map_toArray, List.map_cons, List.map_nil]); first | done | rfl | (simp only [List.length_drop, List.length_take]; rfl)) ?_; (with_reducible refine (cmp_isNaN_int.calls a1 false _ A4.out).mono ?_); rintro e w' ⟨rfl, ⟨nd, rfl⟩⟩; refine ⟨_, rfl, ?_⟩)); go_ret; exact ⟨by first | rfl | (simp; done) | (simp [*]; done), by repeat (first | exact Drawn0.refl _ | apply Drawn0.step)⟩
 ·replace c5 := Bool.eq_false_iff.mpr c5; subst c5; rw [if_neg (show ¬ (false = true) by decide)] at H; by_cases c7 : t102 = true
  ·subst c7; rw [if_pos rfl] at H; obtain rfl := Option.some.inj H; go_enter Tryd.func111, Tryd.ntmps111; go_wp2_with (first | ((with_reducible refine gate_callee (f := 124) rfl ?_); refine goesL_ (some 8) rfl rfl Tryd.func124 (by kernel_rfl) rfl #[.int .i64 a0] rfl (by (try simp only [List.map_toArray, List.map_cons, List.map_nil]); first | done | rfl | (simp only [List.length_drop, List.length_take]; rfl)) ?_; (with_reducible refine (cmp_isNaN_int.calls a0 false _ A3.out).mono ?_); rintro e w' ⟨rfl, ⟨nd, rfl⟩⟩; refine ⟨_, rfl, ?_⟩) | ((with_reducible refine gate_callee (f := 124) rfl ?_); refine goesL_ (some 10) rfl rfl Tryd.func124 (by kernel_rfl) rfl #[.int .i64 a1] rfl (by (try simp only [List.map_toArray, List.map_cons, List.map_nil]); first | done | rfl | (simp only [List.length_drop, List.length_take]; rfl)) ?_; (with_reducible refine (cmp_isNaN_int.calls a1 true _ A4.out).mono ?_); rintro e w' ⟨rfl, ⟨nd, rfl⟩⟩; refine ⟨_, rfl, ?_⟩)); go_ret; exact ⟨by first | rfl | (simp; done) | (simp [*]; done), by repeat (first | exact Drawn0.refl _ | apply Drawn0.step)⟩
  ·replace c7 := Bool.eq_false_iff.mpr c7; subst c7; rw [if_neg (show ¬ (false = true) by decide)] at H; by_cases c8 : a0 < a1
   ·rw [if_pos c8] at H; have c8b0 : decide (a0 < a1) = true := decide_eq_true c8; clear c8; obtain rfl := Option.some.inj H; go_enter Tryd.func111, Tryd.ntmps111; go_wp2_with (first | ((with_reducible refine gate_callee (f := 124) rfl ?_); refine goesL_ (some 8) rfl rfl Tryd.func124 (by kernel_rfl) rfl #[.int .i64 a0] rfl (by (try simp only [List.map_toArray, List.map_cons, List.map_nil]); first | done | rfl | (simp only [List.length_drop, List.length_take]; rfl)) ?_; (with_reducible refine (cmp_isNaN_int.calls a0 false _ A3.out).mono ?_); rintro e w' ⟨rfl, ⟨nd, rfl⟩⟩; refine ⟨_, rfl, ?_⟩) | ((with_reducible refine gate_callee (f := 124) rfl ?_); refine goesL_ (some 10) rfl rfl Tryd.func124 (by kernel_rfl) rfl #[.int .i64 a1] rfl (by (try simp only [List.map_toArray, List.map_cons, List.map_nil]); first | done | rfl | (simp only [List.length_drop, List.length_take]; rfl)) ?_; (with_reducible refine (cmp_isNaN_int.calls a1 false _ A4.out).mono ?_); rintro e w' ⟨rfl, ⟨nd, rfl⟩⟩; refine ⟨_, rfl, ?_⟩)); go_ret; exact ⟨by first | rfl | (simp; done) | (simp [*]; done), by repeat (first | exact Drawn0.refl _ | apply Drawn0.step)⟩
   ·rw [if_neg c8] at H; have c8b0 : decide (a0 < a1) = false := decide_eq_false c8; clear c8; by_cases c9 : a0 > a1
    ·rw [if_pos c9] at H; have c9b0 : decide (a1 < a0) = true := decide_eq_true c9; clear c9; obtain rfl := Option.some.inj H; go_enter Tryd.func111, Tryd.ntmps111; go_wp2_with (first | ((with_reducible refine gate_callee (f := 124) rfl ?_); refine goesL_ (some 8) rfl rfl Tryd.func124 (by kernel_rfl) rfl #[.int .i64 a0] rfl (by (try simp only [List.map_toArray, List.map_cons, List.map_nil]); first | done | rfl | (simp only [List.length_drop, List.length_take]; rfl)) ?_; (with_reducible refine (cmp_isNaN_int.calls a0 false _ A3.out).mono ?_); rintro e w' ⟨rfl, ⟨nd, rfl⟩⟩; refine ⟨_, rfl, ?_⟩) | ((with_reducible refine gate_callee (f := 124) rfl ?_); refine goesL_ (some 10) rfl rfl Tryd.func124 (by kernel_rfl) rfl #[.int .i64 a1] rfl (by (try simp only [List.map_toArray, List.map_cons, List.map_nil]); first | done | rfl | (simp only [List.length_drop, List.length_take]; rfl)) ?_; (with_reducible refine (cmp_isNaN_int.calls a1 false _ A4.out).mono ?_); rintro e w' ⟨rfl, ⟨nd, rfl⟩⟩; refine ⟨_, rfl, ?_⟩)); go_ret; exact ⟨by first | rfl | (simp; done) | (simp [*]; done), by repeat (first | exact Drawn0.refl _ | apply Drawn0.step)⟩
    ·rw [if_neg c9] at H; have c9b0 : decide (a1 < a0) = false := decide_eq_false c9; clear c9; obtain rfl := Option.some.inj H; go_enter Tryd.func111, Tryd.ntmps111; go_wp2_with (first | ((with_reducible refine gate_callee (f := 124) rfl ?_); refine goesL_ (some 8) rfl rfl Tryd.func124 (by kernel_rfl) rfl #[.int .i64 a0] rfl (by (try simp only [List.map_toArray, List.map_cons, List.map_nil]); first | done | rfl | (simp only [List.length_drop, List.length_take]; rfl)) ?_; (with_reducible refine (cmp_isNaN_int.calls a0 false _ A3.out).mono ?_); rintro e w' ⟨rfl, ⟨nd, rfl⟩⟩; refine ⟨_, rfl, ?_⟩) | ((with_reducible refine gate_callee (f := 124) rfl ?_); refine goesL_ (some 10) rfl rfl Tryd.func124 (by kernel_rfl) rfl #[.int .i64 a1] rfl (by (try simp only [List.map_toArray, List.map_cons, List.map_nil]); first | done | rfl | (simp only [List.length_drop, List.length_take]; rfl)) ?_; (with_reducible refine (cmp_isNaN_int.calls a1 false _ A4.out).mono ?_); rintro e w' ⟨rfl, ⟨nd, rfl⟩⟩; refine ⟨_, rfl, ?_⟩)); go_ret; exact ⟨by first | rfl | (simp; done) | (simp [*]; done), by repeat (first | exact Drawn0.refl _ | apply Drawn0.step)⟩
end Go.Proofs.YthffpkdadffinaaDoor.X
namespace Go.Proofs.YthffpkdadffinaaDoor.Nd
set_option linter.unusedVariables false
set_option linter.unusedSimpArgs false
open Go.RowKit YthffpkdadffinaaDoorW.PrintWords Hp Va Na Nb Nc
def cmpv (a b : Int) : Int := if a < b then -1 else if b < a then 1 else 0
theorem cmpv_neg (a b : Int) : decide (cmpv a b < 0) = decide (a < b) := by
  rw [decide_eq_decide]; unfold cmpv; split
  · simp; assumption
  · split <;> simp <;> omega
theorem cmp_pure (a b : Int) : X.cmp_Compare_int.f a b = some (cmpv a b) := by
  unfold X.cmp_Compare_int.f X.cmp_isNaN_int.f cmpv; simp; split
  · rfl
  · split <;> rfl
def fv : Value := .func (.func 110) #[] #[]
set_option maxRecDepth 100000 in
set_option maxHeartbeats 1000000 in
theorem CmpP (w : World) (hG : G w) (a b : Int) : Calls Tryd.prog 110 #[.int .i32 a, .int .i32 b] w fun e w' => e = .returned (.int .i64 (cmpv (cls a) (cls b))) ∧ Below w.heap.size w w' := by
  have HG := Aside0.mk hG; clear hG; go_enter Tryd.func110, Tryd.ntmps110; go_wp2_with (first | (go_at_call 55; (with_reducible refine (ClassP w HG.out a).mono ?_); rintro e w1 ⟨rfl, p1⟩; have B1 := Aside0.mk p1; clear p1) | (go_at_call 55; (with_reducible refine (ClassP w1 (HG.out.below B1.out) b).mono ?_); rintro e w2 ⟨rfl, p2⟩; have B2 := Aside0.mk (below_then B1.out B1.out.size p2); clear p2) | (go_at_call 111; go_must (refine (X.cmp_Compare_int.calls (cls a) (cls b) _ w2 (cmp_pure _ _)).mono ?_; rintro e w3 ⟨rfl, p3⟩; have B3 := Aside0.mk (below_then B2.out B2.out.size p3.below); clear p3))); go_ret; exact ⟨rfl, B3.out⟩
def InsPost (w : World) (g : Nat) (pre post : List Value) (A seg C : List Int) (e : Ending) (w' : World) : Prop :=
  e = .returned (.tuple #[]) ∧ Chg (fun b => b = g) w w' ∧ ∃ S, Reg w' g pre post (A ++ S ++ C) ∧ Srt S ∧ Sw seg S
set_option maxRecDepth 100000 in
set_option maxHeartbeats 2000000 in
theorem InsP (w : World) (hG : G w) (g : Nat) (hg : 3 ≤ g) (pre post : List Value) (A seg C : List Int) (c : Nat) (hR : Reg w g pre post (A ++ seg ++ C)) (n : Nat) (hn : n = (A ++ seg ++ C).length) (hn5 : n ≤ 1000000000000000) (off : Nat) (hoff : off = pre.length) (a b : Nat) (ha : a = A.length) (hb : b = A.length + seg.length) :
    Calls Tryd.prog 126 #[.slice (some ⟨g, off, none⟩) n c, .int .i64 (a : Int), .int .i64 (b : Int), .func (.func 110) #[] #[]] w (InsPost w g pre post A seg C) := by
  have HG := Aside0.mk hG; have HR := Aside0.mk hR; have HN := Aside0.mk hn; have HF := Aside0.mk hoff; have HA := Aside0.mk ha; have HB := Aside0.mk hb; (have hbn : b ≤ n := by rw [hb, hn]; simp); (have hab : a ≤ b := by omega); clear hG hR hn hoff ha hb; go_enter Tryd.func126, Tryd.ntmps126; go_wp2; go_loopw [8] (fun iv wr => ∃ (i : Nat) (D rest S : List Int), iv = .int .i64 i ∧ i ≤ b + 1 ∧ Aside0 (D ++ rest = seg) ∧ Aside0 (i = a + D.length ∨ (seg = [] ∧ i = a + 1)) ∧ Aside0 (Srt S ∧ Sw D S) ∧ Aside0 (Reg wr g pre post (A ++ S ++ rest ++ C)) ∧ Aside0 (Chg (fun b => b = g) w wr)) (fun iv _ => b + 1 - (intOf iv).toNat)
  case atStart =>
    cases seg with
    | nil => exact ⟨a + 1, [], [], [], by go_num, by omega, ⟨rfl⟩, ⟨.inr ⟨rfl, rfl⟩⟩, ⟨⟨List.Pairwise.nil, Sw.refl _⟩⟩, ⟨by have := HR.out; simpa using this⟩, ⟨Chg.refl _ _⟩⟩
    | cons x t => exact ⟨a + 1, [x], t, [x], by go_num, by omega, ⟨rfl⟩, ⟨.inl rfl⟩, ⟨⟨List.pairwise_singleton .., Sw.refl _⟩⟩, ⟨by have := HR.out; simpa using this⟩, ⟨Chg.refl _ _⟩⟩
  case round =>
    obtain ⟨i, D, rest, S, rfl, hi, HD, HI, HS, HRr, HC⟩ := hrel; by_cases hlt : i < b
    · have hd : decide ((i : Int) < (b : Int)) = true := decide_eq_true (by omega)
      obtain ⟨x, rest', hx⟩ : ∃ x r, rest = x :: r := by
        cases rest with
        | nil =>
          have h1 := HD.out; have h2 := HI.out; have h3 := HB.out; have h4 := HA.out; rw [List.append_nil] at h1; subst h1; rcases h2 with h2 | ⟨h2, h5⟩
          · omega
          · rw [h2] at h3; simp at h3; omega
        | cons x r => exact ⟨x, r, rfl⟩
      subst hx; have HI1 : Aside0 (i = a + D.length) := ⟨by rcases HI.out with h | ⟨h, _⟩; exact h; exact absurd HD.out (by rw [h]; simp)⟩; have HL : Aside0 (S.length = D.length) := ⟨HS.out.2.length.symm⟩; clear HI; go_wp2; go_loopw [9] (fun jv w2 => ∃ (j : Nat) (L R : List Int), jv = .int .i64 j ∧ j ≤ i ∧ Aside0 (j = a + L.length) ∧ Aside0 (WayL S L x R) ∧ Aside0 (Reg w2 g pre post (A ++ (L ++ x :: R) ++ rest' ++ C)) ∧ Aside0 (Chg (fun b => b = g) w w2)) (fun jv _ => (intOf jv).toNat)
      case atStart => exact ⟨i, S, [], rfl, Nat.le_refl _, ⟨by rw [HI1.out, HL.out]⟩, ⟨WayL.start S x⟩, ⟨by have := HRr.out; simpa using this⟩, HC⟩
      case round =>
        obtain ⟨j, L, R, rfl, hji, HJ, HWy, HR2, HC2⟩ := hrel; clear HRr HC; rcases List.eq_nil_or_concat L with hL | ⟨L', y, hL⟩
        · (have hjn : ¬ a < j := by have := HJ.out; rw [hL] at this; simp at this; omega); have hja : decide ((a : Int) < (j : Int)) = false := decide_eq_false (by omega); have hja2 : decide (a < j) = false := decide_eq_false hjn; subst hL; have HS3 := Aside0.mk (HWy.out.stop HS.out.1 (by simp)); have HD3 := Aside0.mk (HD.out); go_wp2; go_quiet (fail); go_wp2; go_roundw
          case rel => exact ⟨i + 1, D ++ [x], rest', [] ++ x :: R, by go_num, by omega, ⟨by rw [← HD.out]; simp⟩, ⟨.inl (by have := HI1.out; simp; omega)⟩, ⟨HS3.out.1, (HS.out.2.append (Sw.refl [x])).trans HS3.out.2⟩, ⟨by have := HR2.out.drewN nq; simpa using this⟩, ⟨HC2.out.drewN nq⟩⟩
          case measure => simp [intOf]; omega
        · rw [List.concat_eq_append] at hL; subst hL; obtain ⟨jp, rfl⟩ : ∃ q, j = q + 1 := ⟨j - 1, by have := HJ.out; simp at this; omega⟩; have hja : decide ((a : Int) < (jp : Int) + 1) = true := decide_eq_true (by have := HJ.out; simp at this; omega); (have hP : (A ++ (L' ++ [y] ++ x :: R) ++ rest' ++ C) = (A ++ L') ++ y :: ([] ++ x :: (R ++ rest' ++ C)) := by simp); have hR2 := HR2.out; rw [hP] at hR2; (have hpl : jp = (A ++ L').length := by have h1 := HJ.out; have h2 := HA.out; simp at h1 ⊢; omega); obtain ⟨c2, c1, -, -⟩ := hR2.two HF.out hpl (q := jp + 1) (by rw [hpl]; rfl); have HR3 := Aside0.mk hR2; have HPL := Aside0.mk hpl; (have hjn : (jp : Int) + 1 < (n : Int) := by omega); (have hj1 : ((jp : Int) + 1).toNat = jp + 1 := by omega); (have hj2 : (0 : Int) ≤ (jp : Int) + 1 := by omega); have hj3 : IntKind.i64.wrap ((jp : Int)) = (jp : Int) := IntWalk.i64_in _ (by omega); (have hj4 : (jp : Int) < (n : Int) := by omega); (have hj5 : (0 : Int) ≤ (jp : Int) := by omega); clear hP hpl hR2; (have l1 : ∀ p : Aft wr, p.w'.cell? ⟨g, off + (jp + 1), none⟩ = some (.int .i32 x) := fun p => p.cell c1); (have l2 : ∀ p : Aft wr, p.w'.cell? ⟨g, off + jp, none⟩ = some (.int .i32 y) := fun p => p.cell c2); (have hG2 : ∀ p : Aft wr, G p.w' := fun p => (G_chg HG.out HC2.out (fun k hk e => by omega)).below p.hb); have HG2 := Aside0.mk hG2; clear hG2 c1 c2; by_cases hxy : cls x < cls y
          · (have hc : decide (cmpv (cls x) (cls y) < 0) = true := by rw [cmpv_neg]; exact decide_eq_true hxy); go_wp2; refine wp_region_aft (by kernel_rfl) (by kernel_rfl) ?_; (repeat (quiet_step (first | (go_at_call 110; exact aft_of (CmpP _ (HG2.out _) x y))))); refine wpQuiet_nil ?_; rintro w3 ⟨⟨_, hb3⟩, rfl⟩; have hR4 := HR3.out.below hb3; have HR4 := Aside0.mk hR4; have hC4 := Aside0.mk (HC2.out.then_below hb3); obtain ⟨c2, c1, -, hSw⟩ := hR4.two HF.out HPL.out (q := jp + 1) (by rw [HPL.out]; rfl); have f1 := hR4.free (off + (jp + 1)); have f2 := hR4.free (off + jp); obtain ⟨u, c3⟩ : ∃ u, (w3.setCell ⟨g, off + (jp + 1), none⟩ (.int .i32 y)).cell? ⟨g, off + jp, none⟩ = some u := cell?_setCell_some c2; have HSw := Aside0.mk hSw; clear l1 l2 hc hR4 hSw hb3 HG2; go_wp2
            go_big_region
            have HR5 := Aside0.mk (HSw.out.drew); have HC5 := Aside0.mk (((hC4.out.setCell (p := ⟨g, off + (jp + 1), none⟩) (.inl rfl) (.int .i32 y)).setCell (p := ⟨g, off + jp, none⟩) (.inl rfl) (.int .i32 x)).drew); clear HSw hC4 c1 c2 c3 f1 f2; generalize ((w3.setCell ⟨g, off + (jp + 1), none⟩ (.int .i32 y)).setCell ⟨g, off + jp, none⟩ (.int .i32 x)).drew = w4 at HR5 HC5 ⊢; go_wp2; go_roundw
            case rel => exact ⟨jp, L', y :: R, by go_num, by omega, ⟨by have h1 := HJ.out; simp only [List.length_append, List.length_cons, List.length_nil] at h1; omega⟩, ⟨HWy.out.step hxy⟩, ⟨by have := HR5.out; simpa using this⟩, HC5⟩
            case measure => simp [intOf]
          · (have hc : decide (cmpv (cls x) (cls y) < 0) = false := by rw [cmpv_neg]; exact decide_eq_false hxy); have HS3 := Aside0.mk (HWy.out.stop HS.out.1 (last_le (srt_left (HWy.out.all ▸ HS.out.1)) (by omega))); go_wp2; refine wp_region_aft (by kernel_rfl) (by kernel_rfl) ?_; (repeat (quiet_step (first | (go_at_call 110; exact aft_of (CmpP _ (HG2.out _) x y))))); refine wpQuiet_nil ?_; rintro w3 ⟨⟨_, hb3⟩, rfl⟩; have HR4 := Aside0.mk (HR3.out.below hb3); have HC4 := Aside0.mk (HC2.out.then_below hb3); clear l1 l2 hc hb3 HG2 hj1 hj2 hj3 hj4 hj5; go_wp2; go_roundw
            case rel => exact ⟨i + 1, D ++ [x], rest', (L' ++ [y]) ++ x :: R, by go_num, by omega, ⟨by rw [← HD.out]; simp⟩, ⟨.inl (by have := HI1.out; simp; omega)⟩, ⟨HS3.out.1, (HS.out.2.append (Sw.refl [x])).trans HS3.out.2⟩, ⟨by have := HR4.out; simpa using this⟩, HC4⟩
            case measure => simp [intOf]; omega
    · have hd : decide ((i : Int) < (b : Int)) = false := decide_eq_false (by omega)
      have hrest : rest = [] := by
        have h1 := congrArg List.length HD.out; have h2 := HB.out; have h3 := HA.out; rcases HI.out with h | ⟨h, h4⟩
        · simp at h1; exact List.eq_nil_of_length_eq_zero (by omega)
        · rw [h] at h1; simp at h1; exact h1.2
      subst hrest; have HDD : Aside0 (D = seg) := ⟨by have := HD.out; rwa [List.append_nil] at this⟩; go_wp2; go_end0; exact ⟨rfl, HC.out, S, by have := HRr.out; rwa [List.append_nil] at this, HS.out.1, HDD.out ▸ HS.out.2⟩
end Go.Proofs.YthffpkdadffinaaDoor.Nd
