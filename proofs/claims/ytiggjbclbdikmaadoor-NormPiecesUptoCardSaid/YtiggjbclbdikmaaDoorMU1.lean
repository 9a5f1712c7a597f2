/-
  Several texts of this claim in one: what its law's proof uses.
-/
import Derived.Test.YtiggjbclbdikmaaDoorMU0
import Derived.Test.YtiggjbclbdikmaaDoorProg
import Derived.Deep.MidRow
import Derived.WalkKit
import Derived.WalkSpells
import Derived.WalkLawsBesides
import Derived.Deep.QuietTactic
import Derived.BigRegion
import Derived.RegionTactic
import Derived.BigQuiet
import Derived.Below
import Derived.Deep.Draws
import Derived.Deep.AppendLies
import Derived.Maps.AppendAt
import Derived.OwnWalk
import Derived.Laws.BytesArg
import Derived.Laws.MakeOwn
import Derived.Laws.OwnMore
import Derived.Deep.OwnRows
import Derived.Tactics
import Derived.Lib.ConvBytes
import Derived.Laws.Slices
import Derived.KernelRfl
import Derived.RowKit3
import Derived.Deep.LoopGhost
import Derived.WideLaws
import Derived.Deep.DeepCutAuto
import Derived.Deep.CutBlock
import Derived.Deep.RegionHeld3
import Derived.Laws.Rows
import Derived.Lib.AppendStr
import Derived.ArgAppend
import Derived.Laws.IdiomCopy
import Derived.OrdersHeld
import Derived.Laws.BitsLemmas
import Derived.RowKit
import Derived.IntWalk
import Derived.Laws.RangeString
namespace Go.Proofs.YtiggjbclbdikmaaDoor.Hp
set_option linter.unusedVariables false
set_option linter.unusedSimpArgs false
open Go.RowKit Go.Proofs.YtiggjbclbdikmaaDoorW.PrintWords
structure Chg (S : Nat → Prop) (w w' : World) : Prop where
  os : w'.os = w.os
  tape : w'.tape = w.tape
  output : w'.output = w.output
  size : w.heap.size ≤ w'.heap.size
  keep : ∀ k, k < w.heap.size → ¬ S k → w'.heap[k]? = w.heap[k]?
namespace Chg
variable {S S' : Nat → Prop} {w w' w1 w2 : World}
theorem refl (S : Nat → Prop) (w : World) : Chg S w w := ⟨rfl, rfl, rfl, Nat.le_refl _, fun _ _ _ => rfl⟩
theorem mono (h : Chg S w w') (hs : ∀ k, k < w.heap.size → S k → S' k) : Chg S' w w' :=
  ⟨h.os, h.tape, h.output, h.size, fun k hk hn => h.keep k hk (fun h2 => hn (hs k hk h2))⟩
theorem trans (h : Chg S w w1) (k : Chg S' w1 w2) (hs : ∀ i, i < w.heap.size → S' i → S i) : Chg S w w2 :=
  ⟨k.os.trans h.os, k.tape.trans h.tape, k.output.trans h.output, Nat.le_trans h.size k.size,
    fun i hi hn => (k.keep i (Nat.lt_of_lt_of_le hi h.size) (fun h2 => hn (hs i hi h2))).trans (h.keep i hi hn)⟩
theorem of_below {B : Nat} (h : Below B w w') (hB : ∀ k, k < w.heap.size → B ≤ k → S k) : Chg S w w' :=
  ⟨h.os, h.tape, h.output, h.size, fun i hi hn => h.block i (by rcases Nat.lt_or_ge i B with h1 | h1; exact h1; exact absurd (hB i hi h1) hn)⟩
theorem below (h : Chg S w w') {B : Nat} (hB : ∀ k, k < B → k < w.heap.size ∧ ¬ S k) : Below B w w' :=
  ⟨h.os, h.tape, h.output, h.size, fun k hk => h.keep k (hB k hk).1 (hB k hk).2⟩
theorem then_below (h : Chg S w w1) (k : Below w1.heap.size w1 w2) : Chg S w w2 :=
  h.trans (of_below k (S := fun _ => False) (fun i h1 h2 => by omega)) (fun _ _ h => h.elim)
theorem then_drawn (h : Chg S w w1) (k : Drawn0 w1 w2) : Chg S w w2 := h.then_below k.below
theorem drew (h : Chg S w w1) : Chg S w w1.drew := h.then_drawn ((Drawn0.refl w1).step 1)
theorem drewN (h : Chg S w w1) (n : Nat) : Chg S w (w1.drewN n) := h.then_drawn ((Drawn0.refl w1).step n)
theorem alloc (h : Chg S w w1) (o : Obj) : Chg S w (w1.alloc o) := h.then_below (below_alloc (Below.refl _ _) o)
theorem grown {row : Option Nat} (h : Chg S w w1) (hg : w1.grownBy w2 row) (hr : ∀ k, row = some k → S k ∨ w.heap.size ≤ k) : Chg S w w2 :=
  h.trans (S' := fun k => row = some k) ⟨hg.os, hg.tape, hg.output, hg.size, fun k hk hn => hg.block k hk (fun he => hn he.symm)⟩
    (fun i hi h2 => (hr i h2).elim id (fun h3 => by omega))
theorem setCell (h : Chg S w w1) {p : Addr} (hp : S p.block ∨ w.heap.size ≤ p.block) (u : Value) : Chg S w (w1.setCell p u) :=
  h.trans (S' := fun k => k = p.block) ⟨rfl, rfl, rfl, by simp [World.setCell], fun k _ hn => Below.heap_setCell _ _ _ _ hn⟩
    (fun i hi h2 => hp.elim (fun h3 => h2 ▸ h3) (fun h3 => by omega))
theorem kept (h : Chg S w w') : w.heap.size ≤ w'.heap.size ∧ ∀ i, i < w.heap.size → ¬ S i → w'.heap[i]? = w.heap[i]? := ⟨h.size, h.keep⟩
theorem below_of {w0 : World} (hb : Below w0.heap.size w0 w) (h : Chg S w w') (hS : ∀ k, S k → w0.heap.size ≤ k) : Below w0.heap.size w0 w' :=
  hb.trans (h.below (fun k hk => ⟨Nat.lt_of_lt_of_le hk hb.size, fun h2 => by have := hS k h2; omega⟩))
theorem heap (h : Chg S w w') {g : Nat} {o : Obj} (hb : w.heap[g]? = some o) (hne : ¬ S g) : w'.heap[g]? = some o := (h.keep g (blk_lt hb) hne).trans hb
theorem lt (h : Chg S w w') {k : Nat} (hk : k < w.heap.size) : k < w'.heap.size := Nat.lt_of_lt_of_le hk h.size
end Chg
def Ft (P : World → Prop) (W : World) (ok : Nat → Prop) : Prop := ∀ W' : World, (∀ k, ok k → k < W.heap.size → W'.heap[k]? = W.heap[k]?) → P W'
namespace Ft
variable {P Q : World → Prop} {W W1 : World} {ok ok' S : Nat → Prop}
theorem hlt {k : Nat} (h : W1.heap[k]? = W.heap[k]?) (hlt : k < W.heap.size) : k < W1.heap.size := by
  rw [Array.getElem?_eq_getElem hlt] at h
  exact (Array.getElem?_eq_some_iff.1 h).1
theorem now (h : Ft P W ok) : P W := h W (fun _ _ _ => rfl)
theorem mono (h : Ft P W ok) (hok : ∀ k, k < W.heap.size → ok k → ok' k) : Ft P W ok' := fun W' hW => h W' (fun k hk hlt => hW k (hok k hlt hk) hlt)
theorem bound (h : Ft P W ok) : Ft P W (fun k => ok k ∧ k < W.heap.size) := h.mono fun _ hlt hk => ⟨hk, hlt⟩
theorem step (h : Ft P W ok) (hm : ∀ k, ok k → k < W.heap.size → W1.heap[k]? = W.heap[k]?) : Ft P W1 (fun k => ok k ∧ k < W.heap.size) := fun W' hW => h W' (fun k hk hlt => (hW k ⟨hk, hlt⟩ (hlt |> Ft.hlt (hm k hk hlt))).trans (hm k hk hlt))
theorem chg (h : Ft P W ok) (hc : Chg S W W1) (hd : ∀ k, ok k → ¬ S k) : Ft P W1 (fun k => ok k ∧ k < W.heap.size) := h.step (fun k hk hlt => hc.keep k hlt (hd k hk))
theorem and (h : Ft P W ok) (k : Ft Q W ok') : Ft (fun w => P w ∧ Q w) W (fun i => ok i ∨ ok' i) := fun W' hW => ⟨h W' (fun i hi => hW i (.inl hi)), k W' (fun i hi => hW i (.inr hi))⟩
end Ft
section
variable {α : Type} {d : Kd α} {e base n c : Nat} {ok S : Nat → Prop} {w w0 W W1 : World} {v : Value} {A : Option Addr} {xs : List α}
theorem R_chg (h : d.R e W base ok v xs) (hc : Chg S W W1) (hne : ∀ k, ok k → ¬ S k) : d.R e W1 base ok v xs := Kd.R_step h (fun k ho hlt => hc.keep k hlt (hne k ho))
theorem cell_chg {a : Addr} {u : Value} (hc : W.cell? a = some u) (hk : Chg S W W1) (hne : ¬ S a.block) : W1.cell? a = some u := by
  have := hk.keep a.block (World.block_lt_of_cell? W a hc) hne
  simpa [World.cell?, this] using hc
end
theorem lit_reads {w : World} {b : Nat} {t : TypeId} {k : IntKind} {xs : List Int} {cs : Array Value} {fr : Nat × Nat} (h : w.heap[b]? = some (.cells cs t fr)) (hc : cs.toList = nums k xs) (hm : xs.length ≤ 9223372036854775807) :
    ReadsInt w k (some ⟨b, 0, none⟩) xs.length xs := by
  refine ⟨rfl, hm, fun _ => ⟨_, rfl, fun j hj => ?_⟩⟩
  rw [add_plain]
  have : cs[j]? = some (.int k (xs.getD j 0)) := by
    rw [← Array.getElem?_toList, hc]
    simp [nums, List.getElem?_eq_getElem hj, List.getD_eq_getElem?_getD]
  simp [World.cell?, h, this]
theorem rdint {w : World} {k : IntKind} {A : Option Addr} {n : Nat} {xs : List Int} (h : (Kd.int k).C w A n xs) : ReadsInt w k A n xs := Kd.reads_of_C (d := (0 : Int)) (h1 := fun _ => rfl) h
theorem rdC {w : World} {k : IntKind} {A : Option Addr} {n : Nat} {xs : List Int} (h : ReadsInt w k A n xs) : (Kd.int k).C w A n xs := Kd.C_of_reads (d := (0 : Int)) (h1 := fun _ => rfl) h
theorem below_size {w W : World} (h : Below w.heap.size w W) : w.heap.size ≤ W.heap.size := h.size
end Go.Proofs.YtiggjbclbdikmaaDoor.Hp
namespace Go.Proofs.YtiggjbclbdikmaaDoor.Va
set_option linter.unusedVariables false
set_option linter.unusedSimpArgs false
open Go.RowKit Go.Proofs.YtiggjbclbdikmaaDoorW.PrintWords Go.Proofs.YtiggjbclbdikmaaDoor.Hp
def clsT : List (Int × Int × Int) := [(768, 788, 230), (789, 789, 232), (790, 793, 220), (794, 794, 232), (795, 795, 216), (796, 800, 220), (801, 802, 202), (803, 806, 220), (807, 808, 202), (809, 819, 220), (820, 824, 1), (825, 828, 220), (829, 836, 230), (837, 837, 240), (838, 838, 230), (839, 841, 220), (842, 844, 230), (845, 846, 220), (848, 850, 230), (851, 854, 220), (855, 855, 230), (8400, 8401, 230), (12441, 12442, 8)]
def prsT : List (Int × Int × Int) := [(469, 220, 772), (470, 252, 772), (832, 768, 0), (833, 769, 0), (835, 787, 0), (836, 776, 769), (902, 913, 769), (912, 970, 769), (940, 945, 769), (943, 953, 769), (970, 953, 776), (972, 959, 769), (7691, 100, 775), (7693, 100, 803), (7777, 115, 775), (7779, 115, 803), (7785, 7779, 775), (7841, 97, 803), (7844, 194, 769), (7845, 226, 769), (7863, 7841, 774), (7865, 101, 803), (7879, 7865, 770), (8049, 940, 0), (8115, 945, 837), (8486, 937, 0), (8490, 75, 0), (8491, 197, 0), (8800, 61, 824), (12364, 12363, 12441), (12497, 12495, 12442)]
def mksT : List Int := [768, 769, 770, 771, 772, 774, 775, 776, 778, 779, 780, 807, 808]
def cells3 (l : List (Int × Int × Int)) : List Value := l.flatMap fun p => [.int .i32 p.1, .int .i32 p.2.1, .int .i32 p.2.2]
def G (W : World) : Prop := W.rangeAt 0 0 (cells3 clsT) ∧ W.rangeAt 1 0 (cells3 prsT) ∧ W.rangeAt 2 0 (nums .i32 mksT)
theorem range_below {w W : World} {b o : Nat} {cs : List Value} (h : w.rangeAt b o cs) (hb : Below w.heap.size w W) : W.rangeAt b o cs := fun j v hv => (hb.cell (World.block_lt_of_cell? w _ (h j v hv))).trans (h j v hv)
theorem G.below {w W : World} (h : G w) (hb : Below w.heap.size w W) : G W := ⟨range_below h.1 hb, range_below h.2.1 hb, range_below h.2.2 hb⟩
def clsF (r : Int) : List (Int × Int × Int) → Int
  | [] => 0
  | p :: t => if p.1 ≤ r ∧ r ≤ p.2.1 then p.2.2 else clsF r t
def cls (r : Int) : Int := clsF r clsT
theorem infoC : (Tryd.prog.info? 100).map (·.size) = some (cells3 clsT).length := by kernel_rfl
theorem ix0 : ∀ W : World, (Instr.index 100 (.agg (cells3 clsT).toArray) (.int .i64 0)).run Tryd.prog W = .ok (.agg #[.int .i32 (clsT.getD 0 (0, 0, 0)).1, .int .i32 (clsT.getD 0 (0, 0, 0)).2.1, .int .i32 (clsT.getD 0 (0, 0, 0)).2.2]) W := fun _ => by kernel_rfl
theorem ix1 : ∀ W : World, (Instr.index 100 (.agg (cells3 clsT).toArray) (.int .i64 1)).run Tryd.prog W = .ok (.agg #[.int .i32 (clsT.getD 1 (0, 0, 0)).1, .int .i32 (clsT.getD 1 (0, 0, 0)).2.1, .int .i32 (clsT.getD 1 (0, 0, 0)).2.2]) W := fun _ => by kernel_rfl
theorem ix2 : ∀ W : World, (Instr.index 100 (.agg (cells3 clsT).toArray) (.int .i64 2)).run Tryd.prog W = .ok (.agg #[.int .i32 (clsT.getD 2 (0, 0, 0)).1, .int .i32 (clsT.getD 2 (0, 0, 0)).2.1, .int .i32 (clsT.getD 2 (0, 0, 0)).2.2]) W := fun _ => by kernel_rfl
theorem ix3 : ∀ W : World, (Instr.index 100 (.agg (cells3 clsT).toArray) (.int .i64 3)).run Tryd.prog W = .ok (.agg #[.int .i32 (clsT.getD 3 (0, 0, 0)).1, .int .i32 (clsT.getD 3 (0, 0, 0)).2.1, .int .i32 (clsT.getD 3 (0, 0, 0)).2.2]) W := fun _ => by kernel_rfl
theorem ix4 : ∀ W : World, (Instr.index 100 (.agg (cells3 clsT).toArray) (.int .i64 4)).run Tryd.prog W = .ok (.agg #[.int .i32 (clsT.getD 4 (0, 0, 0)).1, .int .i32 (clsT.getD 4 (0, 0, 0)).2.1, .int .i32 (clsT.getD 4 (0, 0, 0)).2.2]) W := fun _ => by kernel_rfl
theorem ix5 : ∀ W : World, (Instr.index 100 (.agg (cells3 clsT).toArray) (.int .i64 5)).run Tryd.prog W = .ok (.agg #[.int .i32 (clsT.getD 5 (0, 0, 0)).1, .int .i32 (clsT.getD 5 (0, 0, 0)).2.1, .int .i32 (clsT.getD 5 (0, 0, 0)).2.2]) W := fun _ => by kernel_rfl
theorem ix6 : ∀ W : World, (Instr.index 100 (.agg (cells3 clsT).toArray) (.int .i64 6)).run Tryd.prog W = .ok (.agg #[.int .i32 (clsT.getD 6 (0, 0, 0)).1, .int .i32 (clsT.getD 6 (0, 0, 0)).2.1, .int .i32 (clsT.getD 6 (0, 0, 0)).2.2]) W := fun _ => by kernel_rfl
theorem ix7 : ∀ W : World, (Instr.index 100 (.agg (cells3 clsT).toArray) (.int .i64 7)).run Tryd.prog W = .ok (.agg #[.int .i32 (clsT.getD 7 (0, 0, 0)).1, .int .i32 (clsT.getD 7 (0, 0, 0)).2.1, .int .i32 (clsT.getD 7 (0, 0, 0)).2.2]) W := fun _ => by kernel_rfl
theorem ix8 : ∀ W : World, (Instr.index 100 (.agg (cells3 clsT).toArray) (.int .i64 8)).run Tryd.prog W = .ok (.agg #[.int .i32 (clsT.getD 8 (0, 0, 0)).1, .int .i32 (clsT.getD 8 (0, 0, 0)).2.1, .int .i32 (clsT.getD 8 (0, 0, 0)).2.2]) W := fun _ => by kernel_rfl
theorem ix9 : ∀ W : World, (Instr.index 100 (.agg (cells3 clsT).toArray) (.int .i64 9)).run Tryd.prog W = .ok (.agg #[.int .i32 (clsT.getD 9 (0, 0, 0)).1, .int .i32 (clsT.getD 9 (0, 0, 0)).2.1, .int .i32 (clsT.getD 9 (0, 0, 0)).2.2]) W := fun _ => by kernel_rfl
theorem ix10 : ∀ W : World, (Instr.index 100 (.agg (cells3 clsT).toArray) (.int .i64 10)).run Tryd.prog W = .ok (.agg #[.int .i32 (clsT.getD 10 (0, 0, 0)).1, .int .i32 (clsT.getD 10 (0, 0, 0)).2.1, .int .i32 (clsT.getD 10 (0, 0, 0)).2.2]) W := fun _ => by kernel_rfl
theorem ix11 : ∀ W : World, (Instr.index 100 (.agg (cells3 clsT).toArray) (.int .i64 11)).run Tryd.prog W = .ok (.agg #[.int .i32 (clsT.getD 11 (0, 0, 0)).1, .int .i32 (clsT.getD 11 (0, 0, 0)).2.1, .int .i32 (clsT.getD 11 (0, 0, 0)).2.2]) W := fun _ => by kernel_rfl
theorem ix12 : ∀ W : World, (Instr.index 100 (.agg (cells3 clsT).toArray) (.int .i64 12)).run Tryd.prog W = .ok (.agg #[.int .i32 (clsT.getD 12 (0, 0, 0)).1, .int .i32 (clsT.getD 12 (0, 0, 0)).2.1, .int .i32 (clsT.getD 12 (0, 0, 0)).2.2]) W := fun _ => by kernel_rfl
theorem ix13 : ∀ W : World, (Instr.index 100 (.agg (cells3 clsT).toArray) (.int .i64 13)).run Tryd.prog W = .ok (.agg #[.int .i32 (clsT.getD 13 (0, 0, 0)).1, .int .i32 (clsT.getD 13 (0, 0, 0)).2.1, .int .i32 (clsT.getD 13 (0, 0, 0)).2.2]) W := fun _ => by kernel_rfl
theorem ix14 : ∀ W : World, (Instr.index 100 (.agg (cells3 clsT).toArray) (.int .i64 14)).run Tryd.prog W = .ok (.agg #[.int .i32 (clsT.getD 14 (0, 0, 0)).1, .int .i32 (clsT.getD 14 (0, 0, 0)).2.1, .int .i32 (clsT.getD 14 (0, 0, 0)).2.2]) W := fun _ => by kernel_rfl
theorem ix15 : ∀ W : World, (Instr.index 100 (.agg (cells3 clsT).toArray) (.int .i64 15)).run Tryd.prog W = .ok (.agg #[.int .i32 (clsT.getD 15 (0, 0, 0)).1, .int .i32 (clsT.getD 15 (0, 0, 0)).2.1, .int .i32 (clsT.getD 15 (0, 0, 0)).2.2]) W := fun _ => by kernel_rfl
theorem ix16 : ∀ W : World, (Instr.index 100 (.agg (cells3 clsT).toArray) (.int .i64 16)).run Tryd.prog W = .ok (.agg #[.int .i32 (clsT.getD 16 (0, 0, 0)).1, .int .i32 (clsT.getD 16 (0, 0, 0)).2.1, .int .i32 (clsT.getD 16 (0, 0, 0)).2.2]) W := fun _ => by kernel_rfl
theorem ix17 : ∀ W : World, (Instr.index 100 (.agg (cells3 clsT).toArray) (.int .i64 17)).run Tryd.prog W = .ok (.agg #[.int .i32 (clsT.getD 17 (0, 0, 0)).1, .int .i32 (clsT.getD 17 (0, 0, 0)).2.1, .int .i32 (clsT.getD 17 (0, 0, 0)).2.2]) W := fun _ => by kernel_rfl
theorem ix18 : ∀ W : World, (Instr.index 100 (.agg (cells3 clsT).toArray) (.int .i64 18)).run Tryd.prog W = .ok (.agg #[.int .i32 (clsT.getD 18 (0, 0, 0)).1, .int .i32 (clsT.getD 18 (0, 0, 0)).2.1, .int .i32 (clsT.getD 18 (0, 0, 0)).2.2]) W := fun _ => by kernel_rfl
theorem ix19 : ∀ W : World, (Instr.index 100 (.agg (cells3 clsT).toArray) (.int .i64 19)).run Tryd.prog W = .ok (.agg #[.int .i32 (clsT.getD 19 (0, 0, 0)).1, .int .i32 (clsT.getD 19 (0, 0, 0)).2.1, .int .i32 (clsT.getD 19 (0, 0, 0)).2.2]) W := fun _ => by kernel_rfl
theorem ix20 : ∀ W : World, (Instr.index 100 (.agg (cells3 clsT).toArray) (.int .i64 20)).run Tryd.prog W = .ok (.agg #[.int .i32 (clsT.getD 20 (0, 0, 0)).1, .int .i32 (clsT.getD 20 (0, 0, 0)).2.1, .int .i32 (clsT.getD 20 (0, 0, 0)).2.2]) W := fun _ => by kernel_rfl
theorem ix21 : ∀ W : World, (Instr.index 100 (.agg (cells3 clsT).toArray) (.int .i64 21)).run Tryd.prog W = .ok (.agg #[.int .i32 (clsT.getD 21 (0, 0, 0)).1, .int .i32 (clsT.getD 21 (0, 0, 0)).2.1, .int .i32 (clsT.getD 21 (0, 0, 0)).2.2]) W := fun _ => by kernel_rfl
theorem ix22 : ∀ W : World, (Instr.index 100 (.agg (cells3 clsT).toArray) (.int .i64 22)).run Tryd.prog W = .ok (.agg #[.int .i32 (clsT.getD 22 (0, 0, 0)).1, .int .i32 (clsT.getD 22 (0, 0, 0)).2.1, .int .i32 (clsT.getD 22 (0, 0, 0)).2.2]) W := fun _ => by kernel_rfl
theorem idxC (i : Nat) (hi : i < 23) : ∀ W : World, (Instr.index 100 (.agg (cells3 clsT).toArray) (.int .i64 (i : Int))).run Tryd.prog W = .ok (.agg #[.int .i32 (clsT.getD i (0, 0, 0)).1, .int .i32 (clsT.getD i (0, 0, 0)).2.1, .int .i32 (clsT.getD i (0, 0, 0)).2.2]) W := by
  intro W
  match i, hi with
  | 0, _ => exact ix0 W
  | 1, _ => exact ix1 W
  | 2, _ => exact ix2 W
  | 3, _ => exact ix3 W
  | 4, _ => exact ix4 W
  | 5, _ => exact ix5 W
  | 6, _ => exact ix6 W
  | 7, _ => exact ix7 W
  | 8, _ => exact ix8 W
  | 9, _ => exact ix9 W
  | 10, _ => exact ix10 W
  | 11, _ => exact ix11 W
  | 12, _ => exact ix12 W
  | 13, _ => exact ix13 W
  | 14, _ => exact ix14 W
  | 15, _ => exact ix15 W
  | 16, _ => exact ix16 W
  | 17, _ => exact ix17 W
  | 18, _ => exact ix18 W
  | 19, _ => exact ix19 W
  | 20, _ => exact ix20 W
  | 21, _ => exact ix21 W
  | 22, _ => exact ix22 W
  | n + 23, h => exact absurd h (by omega)
theorem cls_small : ∀ p, p ∈ clsT → 0 ≤ p.2.2 ∧ p.2.2 ≤ 240 := by decide
set_option maxRecDepth 100000 in
set_option maxHeartbeats 1000000 in
theorem ClassP (w : World) (hG : G w) (r : Int) : Calls Tryd.prog 62 #[.int .i32 r] w fun e w' => e = .returned (.int .i64 (cls r)) ∧ Below w.heap.size w w' := by
  obtain ⟨tl, htl⟩ : ∃ tl, tl = cells3 clsT := ⟨_, rfl⟩
  have HT := Aside0.mk (show w.rangeAt 0 0 tl by rw [htl]; exact hG.1)
  have HI := Aside0.mk (show (Tryd.prog.info? 100).map (·.size) = some tl.length by rw [htl]; exact infoC)
  have HX := Aside0.mk (show ∀ i : Nat, i < 23 → ∀ W : World, (Instr.index 100 (.agg tl.toArray) (.int .i64 (i : Int))).run Tryd.prog W = .ok (.agg #[.int .i32 (clsT.getD i (0, 0, 0)).1, .int .i32 (clsT.getD i (0, 0, 0)).2.1, .int .i32 (clsT.getD i (0, 0, 0)).2.2]) W by rw [htl]; exact idxC)
  clear hG htl
  have hu43 := Tryd.underlying99
  go_enter Tryd.func62, Tryd.ntmps62
  go_wp2_with (refine wpList_load_mid rfl 100 (.global 0) rfl 0 0 rfl tl _ HT.out Tryd.underlying100 rfl HI.out ?_)
  go_loopw [6] (fun iv wr => ∃ i : Nat, i ≤ 23 ∧ iv = .int .i64 i ∧ Aside0 (cls r = clsF r (clsT.drop i)) ∧ Aside0 (Below w.heap.size w wr)) (fun iv _ => 23 - (intOf iv).toNat)
  case atStart => exact ⟨0, Nat.zero_le _, rfl, ⟨rfl⟩, ⟨Below.refl _ _⟩⟩
  case round =>
    obtain ⟨i, hi, rfl, HE, HB⟩ := hrel
    by_cases hlt : i < 23
    · have hd : decide ((i : Int) < 23) = true := decide_eq_true (by omega)
      have hix := HX.out i hlt
      have he := HE.out
      have hmem : clsT.getD i (0, 0, 0) ∈ clsT := by
        have h1 : i < clsT.length := hlt
        rw [List.getD_eq_getElem?_getD, List.getElem?_eq_getElem h1]
        exact List.getElem_mem h1
      have hsm := cls_small _ hmem
      have hdr : clsT.drop i = clsT.getD i (0, 0, 0) :: clsT.drop (i + 1) := by
        have h1 : i < clsT.length := hlt
        rw [List.drop_eq_getElem_cons h1, List.getD_eq_getElem?_getD, List.getElem?_eq_getElem h1]
        rfl
      rw [hdr, clsF] at he
      obtain ⟨⟨a, b, c⟩, hp⟩ : ∃ p, p = clsT.getD i (0, 0, 0) := ⟨_, rfl⟩
      rw [← hp] at hix he hsm
      simp only at hix he hsm
      clear hp hmem hdr
      have NB := Aside0.mk (show Below w.heap.size w (wr.alloc (.cells #[.int .i32 a, .int .i32 b, .int .i32 c] 99)) from below_then HB.out HB.out.size (below_alloc (Below.refl _ _) _))
      by_cases ha : a ≤ r
      · have ha1 : decide (a ≤ r) = true := decide_eq_true ha
        by_cases hb : r ≤ b
        · have hb1 : decide (r ≤ b) = true := decide_eq_true hb
          rw [if_pos ⟨ha, hb⟩] at he
          have HE1 := Aside0.mk he
          have hw3 : wrap64 c = c := by unfold wrap64; omega
          clear he
          go_wp2
          go_ret
          exact ⟨by rw [HE1.out]; rfl, NB.out⟩
        · have hb1 : decide (r ≤ b) = false := decide_eq_false hb
          rw [if_neg (fun h => hb h.2)] at he
          have HE1 := Aside0.mk he
          clear he
          go_wp2
          go_roundw
          case rel => exact ⟨i + 1, by omega, by go_num, HE1, NB⟩
          case measure => simp [intOf]; omega
      · have ha1 : decide (a ≤ r) = false := decide_eq_false ha
        rw [if_neg (fun h => ha h.1)] at he
        have HE1 := Aside0.mk he
        clear he
        go_wp2
        go_roundw
        case rel => exact ⟨i + 1, by omega, by go_num, HE1, NB⟩
        case measure => simp [intOf]; omega
    · have hd : decide ((i : Int) < 23) = false := decide_eq_false (by omega)
      obtain rfl : i = 23 := by omega
      have he := HE.out
      have HE1 := Aside0.mk (show cls r = 0 from he)
      clear he
      go_wp2
      go_ret
      exact ⟨by rw [HE1.out]; rfl, HB.out⟩
end Go.Proofs.YtiggjbclbdikmaaDoor.Va
namespace Go.Proofs.YtiggjbclbdikmaaDoor.X
open Go.RowKit Go.Proofs.YtiggjbclbdikmaaDoorW.PrintWords
def ucd_Class.f (a0 : Int) : Option Int := some (Va.cls a0)
theorem ucd_Class.calls (a0 : Int) (r : Int) (w : World) (h : ucd_Class.f a0 = some r) (hG0 : Va.G w) : Calls Tryd.prog 62 #[.int .i32 a0] w fun e w' => e = .returned (.int .i64 r) ∧ Below w.heap.size w w' := by
  obtain rfl := Option.some.inj h
  exact Va.ClassP w hG0 a0
end Go.Proofs.YtiggjbclbdikmaaDoor.X
namespace Go.Proofs.YtiggjbclbdikmaaDoor.Na
set_option linter.unusedVariables false
set_option linter.unusedSimpArgs false
open Go.Proofs.YtiggjbclbdikmaaDoor.Va
def Sw (a b : List Int) : Prop := ∀ c : Int, a.filter (fun x => cls x == c) = b.filter (fun x => cls x == c)
def Srt (a : List Int) : Prop := a.Pairwise (fun x y => cls x ≤ cls y)
theorem Sw.refl (a : List Int) : Sw a a := fun _ => rfl
theorem Sw.symm {a b : List Int} (h : Sw a b) : Sw b a := fun c => (h c).symm
theorem Sw.trans {a b c : List Int} (h : Sw a b) (k : Sw b c) : Sw a c := fun d => (h d).trans (k d)
theorem Sw.append {a b c d : List Int} (h : Sw a b) (k : Sw c d) : Sw (a ++ c) (b ++ d) := fun e => by rw [List.filter_append, List.filter_append, h e, k e]
theorem Sw.comm {a b : List Int} (h : ∀ x ∈ a, ∀ y ∈ b, cls x ≠ cls y) : Sw (a ++ b) (b ++ a) := fun c => by
  rw [List.filter_append, List.filter_append]
  by_cases hc : ∃ x ∈ a, cls x = c
  · obtain ⟨x, hx, rfl⟩ := hc
    have : b.filter (fun y => cls y == cls x) = [] := List.filter_eq_nil_iff.2 (fun y hy => by have := h x hx y hy; simp; exact fun e => this e.symm)
    rw [this]
    simp
  · have : a.filter (fun y => cls y == c) = [] := List.filter_eq_nil_iff.2 (fun y hy => by simp; exact fun e => hc ⟨y, hy, e⟩)
    rw [this]
    simp
theorem Sw.mem {a b : List Int} (h : Sw a b) (x : Int) : x ∈ a ↔ x ∈ b := by
  have := h (cls x)
  have e : ∀ l : List Int, x ∈ l ↔ x ∈ l.filter (fun y => cls y == cls x) := fun l => by simp
  rw [e a, e b, this]
theorem filt_len {a b : List Int} : ∀ (n : Nat), a.length ≤ n → Sw a b → a.length ≤ b.length := by
  intro n
  induction n generalizing a b with
  | zero => intro h _; omega
  | succ n ih =>
    intro h hs
    cases a with
    | nil => simp
    | cons x t =>
      have hx : x ∈ b := (hs.mem x).1 (List.mem_cons_self ..)
      have h1 := hs (cls x)
      have ea : (x :: t).length = ((x :: t).filter (fun y => cls y == cls x)).length + ((x :: t).filter (fun y => !(cls y == cls x))).length := by
        rw [← List.length_append]
        exact (List.filter_append_perm _ _).length_eq.symm
      have eb : b.length = (b.filter (fun y => cls y == cls x)).length + (b.filter (fun y => !(cls y == cls x))).length := by
        rw [← List.length_append]
        exact (List.filter_append_perm _ _).length_eq.symm
      have hs2 : Sw ((x :: t).filter (fun y => !(cls y == cls x))) (b.filter (fun y => !(cls y == cls x))) := fun c => by
        rw [List.filter_filter, List.filter_filter]
        by_cases hc : c = cls x
        · have e : ∀ l : List Int, l.filter (fun a => (cls a == c) && !(cls a == cls x)) = [] := fun l => List.filter_eq_nil_iff.2 (fun y _ => by rw [hc]; simp)
          rw [e, e]
        · have e : ∀ l : List Int, l.filter (fun a => (cls a == c) && !(cls a == cls x)) = l.filter (fun a => cls a == c) := fun l => List.filter_congr (fun y _ => by
            by_cases hy : cls y = c
            · simp [hy, hc]
            · simp [hy])
          rw [e, e]
          exact hs c
      have hlt : ((x :: t).filter (fun y => !(cls y == cls x))).length ≤ n := by
        have : ((x :: t).filter (fun y => !(cls y == cls x))) = t.filter (fun y => !(cls y == cls x)) := by simp [List.filter_cons]
        rw [this]
        have := List.length_filter_le (fun y => !(cls y == cls x)) t
        simp at h
        omega
      have := ih hlt hs2
      rw [ea, eb, h1]
      omega
theorem Sw.length {a b : List Int} (h : Sw a b) : a.length = b.length := Nat.le_antisymm (filt_len _ (Nat.le_refl _) h) (filt_len _ (Nat.le_refl _) h.symm)
theorem Srt.append {a b : List Int} (ha : Srt a) (hb : Srt b) (h : ∀ x ∈ a, ∀ y ∈ b, cls x ≤ cls y) : Srt (a ++ b) := List.pairwise_append.2 ⟨ha, hb, h⟩
theorem unique : ∀ (a b : List Int), Srt a → Srt b → Sw a b → a = b
  | [], b, _, _, h => by
    cases b with
    | nil => rfl
    | cons y t => exact absurd ((h.mem y).2 (List.mem_cons_self ..)) (by simp)
  | x :: a, [], _, _, h => absurd ((h.mem x).1 (List.mem_cons_self ..)) (by simp)
  | x :: a, y :: b, ha, hb, h => by
    have ha1 := List.pairwise_cons.1 ha
    have hb1 := List.pairwise_cons.1 hb
    have h1 : cls y ≤ cls x := by
      rcases List.mem_cons.1 ((h.mem x).1 (List.mem_cons_self ..)) with e | e
      · rw [e]; exact Int.le_refl _
      · exact hb1.1 x e
    have h2 : cls x ≤ cls y := by
      rcases List.mem_cons.1 ((h.mem y).2 (List.mem_cons_self ..)) with e | e
      · rw [e]; exact Int.le_refl _
      · exact ha1.1 y e
    have hk : cls x = cls y := Int.le_antisymm h2 h1
    have h3 := h (cls x)
    rw [List.filter_cons, List.filter_cons, hk] at h3
    simp only [beq_self_eq_true, if_true] at h3
    obtain ⟨rfl, h4⟩ := List.cons.inj h3
    have ht : Sw a b := fun c => by
      have := h c
      rw [List.filter_cons, List.filter_cons] at this
      by_cases hc : cls x = c
      · have hc' : (cls x == c) = true := beq_iff_eq.2 hc
        simp only [hc', if_true] at this
        exact (List.cons.inj this).2
      · have hc' : (cls x == c) = false := beq_eq_false_iff_ne.2 hc
        simp only [hc', Bool.false_eq_true, if_false] at this
        exact this
    rw [unique a b ha1.2 hb1.2 ht]
def ins (x : Int) : List Int → List Int
  | [] => [x]
  | y :: r => if cls x ≠ 0 ∧ cls x < cls y then y :: ins x r else x :: y :: r
def ordR (l : List Int) : List Int := l.foldl (fun acc x => ins x acc) []
def ordL (l : List Int) : List Int := (ordR l).reverse
theorem ins_zero {x : Int} (h : cls x = 0) (r : List Int) : ins x r = x :: r := by
  cases r with
  | nil => rfl
  | cons y r => rw [ins, if_neg (fun k => k.1 h)]
theorem cls_nonneg (x : Int) : 0 ≤ cls x := by
  have key : ∀ l : List (Int × Int × Int), (∀ p ∈ l, 0 ≤ p.2.2) → 0 ≤ clsF x l := by
    intro l
    induction l with
    | nil => intro _; exact Int.le_refl _
    | cons p t ih =>
      intro h
      rw [clsF]
      split
      · exact h p (List.mem_cons_self ..)
      · exact ih (fun q hq => h q (List.mem_cons_of_mem _ hq))
  exact key clsT (fun p hp => (cls_small p hp).1)
theorem ins_append (x : Int) {r s : List Int} (hs : s = [] ∨ ∃ z t, s = z :: t ∧ cls z = 0) : ins x (r ++ s) = ins x r ++ s := by
  induction r with
  | nil =>
    rcases hs with rfl | ⟨z, t, rfl, hz⟩
    · rfl
    · have hx := cls_nonneg x
      have hn : ¬ (cls x ≠ 0 ∧ cls x < cls z) := fun k => by have := k.2; omega
      show ins x (z :: t) = x :: z :: t
      rw [ins, if_neg hn]
  | cons y r ih =>
    rw [List.cons_append, ins, ins, ih]
    split <;> rfl
theorem fold_append {s : List Int} (hs : s = [] ∨ ∃ z t, s = z :: t ∧ cls z = 0) : ∀ (l r : List Int), l.foldl (fun acc x => ins x acc) (r ++ s) = l.foldl (fun acc x => ins x acc) r ++ s
  | [], _ => rfl
  | x :: l, r => by rw [List.foldl_cons, List.foldl_cons, ins_append x hs, fold_append hs l]
theorem ordL_starter (a b : List Int) {z : Int} (hz : cls z = 0) : ordL (a ++ z :: b) = ordL a ++ z :: ordL b := by
  unfold ordL ordR
  rw [List.foldl_append, List.foldl_cons, ins_zero hz]
  have := fold_append (.inr ⟨z, a.foldl (fun acc x => ins x acc) [], rfl, hz⟩) b []
  rw [List.nil_append] at this
  rw [this, List.reverse_append, List.reverse_cons, List.append_assoc]
  rfl
theorem ins_sw (x : Int) (r : List Int) : Sw (ins x r).reverse (r.reverse ++ [x]) := by
  induction r with
  | nil => exact Sw.refl _
  | cons y r ih =>
    rw [ins]
    split
    · rename_i h
      rw [List.reverse_cons, List.reverse_cons]
      refine (ih.append (Sw.refl [y])).trans ?_
      rw [List.append_assoc, List.append_assoc]
      refine (Sw.refl _).append (Sw.comm (fun p hp q hq => ?_))
      simp at hp hq
      subst hp hq
      omega
    · rw [List.reverse_cons]
      exact Sw.refl _
theorem fold_sw : ∀ (l r : List Int), Sw (l.foldl (fun acc x => ins x acc) r).reverse (r.reverse ++ l)
  | [], r => by rw [List.append_nil]; exact Sw.refl _
  | x :: l, r => by
    rw [List.foldl_cons]
    refine (fold_sw l _).trans ?_
    have := (ins_sw x r).append (Sw.refl l)
    rw [List.append_assoc] at this
    exact this
theorem ordL_sw (l : List Int) : Sw (ordL l) l := by have := fold_sw l []; exact this
theorem ordL_len (l : List Int) : (ordL l).length = l.length := (ordL_sw l).length
theorem ordL_mem (l : List Int) (x : Int) : x ∈ ordL l ↔ x ∈ l := (ordL_sw l).mem x
theorem ins_srt (x : Int) (hx : cls x ≠ 0) (r : List Int) (h : Srt r.reverse) : Srt (ins x r).reverse := by
  induction r with
  | nil => exact List.pairwise_singleton ..
  | cons y r ih =>
    rw [List.reverse_cons] at h
    have h1 := List.pairwise_append.1 h
    rw [ins]
    split
    · rename_i hc
      rw [List.reverse_cons]
      refine Srt.append (ih h1.1) (List.pairwise_singleton ..) (fun p hp q hq => ?_)
      simp at hq
      subst hq
      have := (ins_sw x r).mem p
      rw [this] at hp
      rcases List.mem_append.1 hp with hp | hp
      · exact h1.2.2 p hp q (by simp)
      · simp at hp; subst hp; omega
    · rename_i hc
      rw [List.reverse_cons, List.reverse_cons]
      refine Srt.append h (List.pairwise_singleton ..) (fun p hp q hq => ?_)
      simp at hq
      subst hq
      have hyq : cls y ≤ cls q := by
        by_cases h : cls q < cls y
        · exact absurd ⟨hx, h⟩ hc
        · omega
      rcases List.mem_append.1 hp with hp | hp
      · exact Int.le_trans (h1.2.2 p hp y (by simp)) hyq
      · simp at hp; subst hp; exact hyq
theorem fold_srt : ∀ (l r : List Int), (∀ x ∈ l, cls x ≠ 0) → Srt r.reverse → Srt (l.foldl (fun acc x => ins x acc) r).reverse
  | [], _, _, h => h
  | x :: l, r, hl, h => by
    rw [List.foldl_cons]
    exact fold_srt l _ (fun y hy => hl y (List.mem_cons_of_mem _ hy)) (ins_srt x (hl x (List.mem_cons_self ..)) r h)
theorem ordL_run {l s : List Int} (hl : ∀ x ∈ l, cls x ≠ 0) (hs : Srt s) (h : Sw l s) : ordL l = s :=
  unique _ _ (fold_srt l [] hl List.Pairwise.nil) hs ((ordL_sw l).trans h)
end Go.Proofs.YtiggjbclbdikmaaDoor.Na
namespace Go.Proofs.YtiggjbclbdikmaaDoor.Nc
set_option linter.unusedVariables false
set_option linter.unusedSimpArgs false
open Go.Proofs.YtiggjbclbdikmaaDoor.Va Go.Proofs.YtiggjbclbdikmaaDoor.Na
theorem set2 (P Q R : List Int) (x y : Int) : ((P ++ x :: (Q ++ y :: R)).set P.length y).set (P.length + 1 + Q.length) x = P ++ y :: (Q ++ x :: R) := by
  rw [List.set_append_right _ _ (Nat.le_refl _), Nat.sub_self, List.set_cons_zero, List.set_append_right _ _ (by omega), show P.length + 1 + Q.length - P.length = Q.length + 1 by omega, List.set_cons_succ, List.set_append_right _ _ (Nat.le_refl _), Nat.sub_self, List.set_cons_zero]
theorem set2' (P Q R : List Int) (x y : Int) : ((P ++ x :: (Q ++ y :: R)).set (P.length + 1 + Q.length) x).set P.length y = P ++ y :: (Q ++ x :: R) := by
  rw [List.set_append_right _ _ (by omega), show P.length + 1 + Q.length - P.length = Q.length + 1 by omega, List.set_cons_succ, List.set_append_right _ _ (Nat.le_refl _), Nat.sub_self, List.set_cons_zero, List.set_append_right _ _ (Nat.le_refl _), Nat.sub_self, List.set_cons_zero]
theorem get_at (P R : List Int) (x : Int) : (P ++ x :: R).getD P.length 0 = x := by simp [List.getD_eq_getElem?_getD]
theorem get_at2 (P Q R : List Int) (x y : Int) : (P ++ x :: (Q ++ y :: R)).getD (P.length + 1 + Q.length) 0 = y := by
  simp [List.getD_eq_getElem?_getD, List.getElem?_append, show ¬ P.length + 1 + Q.length < P.length by omega, show P.length + 1 + Q.length - P.length = Q.length + 1 by omega]
structure WayL (S L : List Int) (x : Int) (R : List Int) : Prop where
  all : S = L ++ R
  less : ∀ r ∈ R, cls x < cls r
theorem WayL.start (S : List Int) (x : Int) : WayL S S x [] := ⟨by simp, by simp⟩
theorem WayL.step {S L R : List Int} {x y : Int} (h : WayL S (L ++ [y]) x R) (hy : cls x < cls y) : WayL S L x (y :: R) :=
  ⟨by rw [h.all]; simp, fun r hr => by rcases List.mem_cons.1 hr with rfl | hr; exact hy; exact h.less r hr⟩
theorem WayL.stop {S L R : List Int} {x : Int} (h : WayL S L x R) (hs : Srt S) (hl : ∀ y ∈ L, cls y ≤ cls x) : Srt (L ++ x :: R) ∧ Sw (S ++ [x]) (L ++ x :: R) := by
  have h1 := h.all
  subst h1
  have hp := List.pairwise_append.1 hs
  refine ⟨List.pairwise_append.2 ⟨hp.1, List.pairwise_cons.2 ⟨fun r hr => Int.le_of_lt (h.less r hr), hp.2.1⟩, fun a ha b hb => ?_⟩, ?_⟩
  · rcases List.mem_cons.1 hb with rfl | hb
    · exact hl a ha
    · exact hp.2.2 a ha b hb
  · rw [List.append_assoc]
    refine (Sw.refl L).append ?_
    have := Sw.comm (a := R) (b := [x]) (fun r hr z hz => by simp at hz; subst hz; have := h.less r hr; omega)
    exact this
theorem last_le {L : List Int} {y x : Int} (hs : Srt (L ++ [y])) (h : cls y ≤ cls x) : ∀ z ∈ L ++ [y], cls z ≤ cls x := fun z hz => by
  rcases List.mem_append.1 hz with hz | hz
  · exact Int.le_trans ((List.pairwise_append.1 hs).2.2 z hz y (by simp)) h
  · simp at hz; subst hz; exact h
theorem srt_left {a b : List Int} (h : Srt (a ++ b)) : Srt a := (List.pairwise_append.1 h).1
theorem srt_right {a b : List Int} (h : Srt (a ++ b)) : Srt b := (List.pairwise_append.1 h).2.1
def K (l : List Int) (i : Nat) : Int := cls (l.getD i 0)
theorem srt_le {l : List Int} (h : Srt l) {i j : Nat} (hij : i ≤ j) (hj : j < l.length) : K l i ≤ K l j := by
  unfold K
  rw [List.getD_eq_getElem?_getD, List.getD_eq_getElem?_getD, List.getElem?_eq_getElem hj, List.getElem?_eq_getElem (by omega)]
  simp only [Option.getD_some]
  rcases Nat.lt_or_ge i j with h1 | h1
  · exact List.pairwise_iff_getElem.1 h i j (by omega) hj h1
  · obtain rfl : i = j := by omega
    exact Int.le_refl _
theorem K_mem {l : List Int} {x : Int} (h : x ∈ l) : ∃ i, i < l.length ∧ cls x = K l i := by
  obtain ⟨i, hi, rfl⟩ := List.mem_iff_getElem.1 h
  exact ⟨i, hi, by unfold K; rw [List.getD_eq_getElem?_getD, List.getElem?_eq_getElem hi]; rfl⟩
theorem K_take {l : List Int} {n i : Nat} (h : i < n) : K (l.take n) i = K l i := by unfold K; simp [List.getD_eq_getElem?_getD, List.getElem?_take, h]
theorem K_drop {l : List Int} {n i : Nat} : K (l.drop n) i = K l (n + i) := by unfold K; simp [List.getD_eq_getElem?_getD, List.getElem?_drop]
theorem K_left {a b : List Int} {i : Nat} (h : i < a.length) : K (a ++ b) i = K a i := by unfold K; simp [List.getD_eq_getElem?_getD, List.getElem?_append, h]
theorem one_left {S : List Int} {x : Int} (hs : Srt S) (t : Nat) (h1 : ∀ i, i < t → i < S.length → K S i < cls x) (h2 : ∀ i, t ≤ i → i < S.length → cls x ≤ K S i) : Srt (S.take t ++ x :: S.drop t) ∧ Sw (x :: S) (S.take t ++ x :: S.drop t) := by
  have a1 : ∀ y ∈ S.take t, cls y < cls x := fun y hy => by
    obtain ⟨i, hi, e⟩ := K_mem hy
    rw [List.length_take] at hi
    rw [e, K_take (by omega)]
    exact h1 i (by omega) (by omega)
  have a2 : ∀ y ∈ S.drop t, cls x ≤ cls y := fun y hy => by
    obtain ⟨i, hi, e⟩ := K_mem hy
    rw [List.length_drop] at hi
    rw [e, K_drop]
    exact h2 _ (by omega) (by omega)
  have hsp := hs
  rw [← List.take_append_drop t S] at hsp
  have hp := List.pairwise_append.1 hsp
  refine ⟨List.pairwise_append.2 ⟨hp.1, List.pairwise_cons.2 ⟨a2, hp.2.1⟩, fun a ha b hb => ?_⟩, ?_⟩
  · rcases List.mem_cons.1 hb with rfl | hb
    · exact Int.le_of_lt (a1 a ha)
    · exact hp.2.2 a ha b hb
  · have := (Sw.comm (a := [x]) (b := S.take t) (fun z hz y hy => by simp at hz; subst hz; have := a1 y hy; omega)).append (Sw.refl (S.drop t))
    simpa using this
theorem one_right {S : List Int} {y : Int} (hs : Srt S) (t : Nat) (h1 : ∀ i, i < t → i < S.length → K S i ≤ cls y) (h2 : ∀ i, t ≤ i → i < S.length → cls y < K S i) : Srt (S.take t ++ y :: S.drop t) ∧ Sw (S ++ [y]) (S.take t ++ y :: S.drop t) := by
  have a1 : ∀ z ∈ S.take t, cls z ≤ cls y := fun z hz => by
    obtain ⟨i, hi, e⟩ := K_mem hz
    rw [List.length_take] at hi
    rw [e, K_take (by omega)]
    exact h1 i (by omega) (by omega)
  have a2 : ∀ z ∈ S.drop t, cls y < cls z := fun z hz => by
    obtain ⟨i, hi, e⟩ := K_mem hz
    rw [List.length_drop] at hi
    rw [e, K_drop]
    exact h2 _ (by omega) (by omega)
  exact WayL.stop (S := S) ⟨(List.take_append_drop t S).symm, a2⟩ hs a1
theorem halves {P U V Q X Y : List Int} (h1 : Srt (P ++ U)) (h2 : Srt (V ++ Q)) (hpq : ∀ p ∈ P, ∀ q ∈ Q, cls p ≤ cls q) (hvu : ∀ v ∈ V, ∀ u ∈ U, cls v < cls u) (hx : Srt X) (hxs : Sw (P ++ V) X) (hy : Srt Y) (hys : Sw (U ++ Q) Y) :
    Srt (X ++ Y) ∧ Sw (P ++ U ++ (V ++ Q)) (X ++ Y) := by
  have hp1 := List.pairwise_append.1 h1
  have hp2 := List.pairwise_append.1 h2
  refine ⟨List.pairwise_append.2 ⟨hx, hy, fun a ha b hb => ?_⟩, ?_⟩
  · rcases List.mem_append.1 ((hxs.mem a).2 ha) with ha | ha <;> rcases List.mem_append.1 ((hys.mem b).2 hb) with hb | hb
    · exact hp1.2.2 a ha b hb
    · exact hpq a ha b hb
    · exact Int.le_of_lt (hvu a ha b hb)
    · exact hp2.2.2 a ha b hb
  · refine Sw.trans ?_ (hxs.append hys)
    have h := (Sw.refl P).append ((Sw.comm (a := U) (b := V) (fun u hu v hv => by have := hvu v hv u hu; omega)).append (Sw.refl Q))
    simpa using h
theorem parted {S1 S2 : List Int} {s e : Nat} (h1 : Srt S1) (h2 : Srt S2) (hs : s ≤ S1.length) (he : e ≤ S2.length)
    (g : 0 < s → e < S2.length → K S1 (s - 1) ≤ K S2 e) (b : s < S1.length → 0 < e → K S2 (e - 1) < K S1 s) :
    (∀ p ∈ S1.take s, ∀ q ∈ S2.drop e, cls p ≤ cls q) ∧ (∀ v ∈ S2.take e, ∀ u ∈ S1.drop s, cls v < cls u) := by
  constructor
  · intro p hp q hq
    obtain ⟨i, hi, e1⟩ := K_mem hp
    obtain ⟨j, hj, e2⟩ := K_mem hq
    rw [List.length_take] at hi
    rw [List.length_drop] at hj
    rw [e1, e2, K_take (by omega), K_drop]
    exact Int.le_trans (srt_le h1 (show i ≤ s - 1 by omega) (by omega)) (Int.le_trans (g (by omega) (by omega)) (srt_le h2 (by omega) (by omega)))
  · intro v hv u hu
    obtain ⟨i, hi, e1⟩ := K_mem hv
    obtain ⟨j, hj, e2⟩ := K_mem hu
    rw [List.length_take] at hi
    rw [List.length_drop] at hj
    rw [e1, e2, K_take (by omega), K_drop]
    exact Int.lt_of_le_of_lt (srt_le h2 (show i ≤ e - 1 by omega) (by omega)) (Int.lt_of_lt_of_le (b (by omega) (by omega)) (srt_le h1 (by omega) (by omega)))
end Go.Proofs.YtiggjbclbdikmaaDoor.Nc
namespace Go.Proofs.YtiggjbclbdikmaaDoor.Nb
set_option linter.unusedVariables false
set_option linter.unusedSimpArgs false
open Go.RowKit Go.Proofs.YtiggjbclbdikmaaDoorW.PrintWords Go.Proofs.YtiggjbclbdikmaaDoor.Hp Go.Proofs.YtiggjbclbdikmaaDoor.Va
def Reg (w : World) (g : Nat) (pre post : List Value) (xs : List Int) : Prop := w.heap[g]? = some (.cells (pre ++ nums .i32 xs ++ post).toArray 21 (0, 0))
section
variable {w w' : World} {g : Nat} {pre post : List Value} {xs : List Int}
theorem Reg.at_ (h : Reg w g pre post xs) (i : Nat) (hi : i < xs.length) : w.cell? ⟨g, pre.length + i, none⟩ = some (.int .i32 (xs.getD i 0)) := by
  rw [blk_cell h]
  rw [List.getElem?_toArray, List.append_assoc, List.getElem?_append_right (by omega), List.getElem?_append_left (by simp [nums]; omega)]
  simp [nums, List.getElem?_eq_getElem hi]
theorem Reg.free (h : Reg w g pre post xs) (i : Nat) : w.frozen? ⟨g, i, none⟩ = false := blk_frozen h i
theorem Reg.set (h : Reg w g pre post xs) (i : Nat) (hi : i < xs.length) (v : Int) : Reg (w.setCell ⟨g, pre.length + i, none⟩ (.int .i32 v)) g pre post (xs.set i v) := by
  refine blk_put h _ _ ?_
  apply Array.ext'
  rw [Array.toList_setIfInBounds]
  simp only []
  rw [List.append_assoc, List.append_assoc, List.set_append_right _ _ (by omega), List.set_append_left _ _ (by simp [nums]; omega)]
  simp [nums, List.map_set]
theorem Reg.chg {S : Nat → Prop} (h : Reg w g pre post xs) (c : Chg S w w') (hg : ¬ S g) : Reg w' g pre post xs := c.heap h hg
theorem Reg.below (h : Reg w g pre post xs) (c : Below w.heap.size w w') : Reg w' g pre post xs := blk_below h c
theorem Reg.drewN (h : Reg w g pre post xs) (n : Nat) : Reg (w.drewN n) g pre post xs := h
theorem Reg.drew (h : Reg w g pre post xs) : Reg w.drew g pre post xs := h
theorem Reg.lt (h : Reg w g pre post xs) : g < w.heap.size := blk_lt h
theorem Reg.of_row {base n c : Nat} {ok : Nat → Prop} {v : Value} (h : Kd.R (Kd.int .i32) 21 w base ok v xs) : (xs = [] ∧ ∃ n, v = .slice none n 0 ∧ n = 0) ∨ ∃ g cap post, v = .slice (some ⟨g, 0, none⟩) xs.length cap ∧ xs.length ≤ cap ∧ cap ≤ maxLen ∧ cap = xs.length + post.length ∧ base ≤ g ∧ Reg w g [] post xs := by
  obtain ⟨_, inner, ⟨hl, ho⟩, hr⟩ := h
  have hin : inner = nums .i32 xs := by
    refine List.ext_getElem (by rw [hr.1]; simp only [nums, List.length_map]; exact Nat.mul_one _) fun i h1 h2 => ?_
    have hi : i < xs.length := by simpa [nums] using h2
    have := hr.2 i xs[i] (List.getElem?_eq_getElem hi)
    have e : (List.take 1 (List.drop (i * 1) inner)) = [.int .i32 xs[i]] := this
    rw [Nat.mul_one, List.drop_eq_getElem_cons h1, List.take_succ_cons, List.take_zero] at e
    rw [(List.cons.inj e).1]
    simp [nums]
  rcases ho with ⟨rfl, h0⟩ | ⟨g, cap, cur, rfl, hb, hh, hnc, hcm, hcs, ht⟩
  · exact .inl ⟨List.eq_nil_of_length_eq_zero h0, 0, rfl, rfl⟩
  · refine .inr ⟨g, cap, cur.toList.drop xs.length, rfl, hnc, hcm, ?_, hb, ?_⟩
    · have : cur.size = cap * 1 := hcs
      simp; omega
    · have e : cur.toList.take xs.length = nums .i32 xs := by
        have : cur.toList.take (xs.length * 1) = inner := ht
        rw [Nat.mul_one] at this
        rw [this, hin]
      unfold Reg
      rw [List.nil_append, ← e, List.take_append_drop]
      exact hh
theorem Reg.to_row {base cap : Nat} {ok : Nat → Prop} (h : Reg w g [] post xs) (hb : base ≤ g) (hok : ok g) (hcm : cap ≤ maxLen) (hc : cap = xs.length + post.length) : Kd.R (Kd.int .i32) 21 w base ok (.slice (some ⟨g, 0, none⟩) xs.length cap) xs := by
  refine ⟨fun k hk => ?_, nums .i32 xs, ⟨by simp only [nums, List.length_map]; exact (Nat.mul_one _).symm, .inr ⟨g, cap, _, rfl, hb, h, by omega, hcm, ?_, ?_⟩⟩, ⟨by simp only [nums, List.length_map]; exact (Nat.mul_one _).symm, fun j p hj => ?_⟩⟩
  · have : g = k := by simpa [Value.ownBlock] using hk
    exact this ▸ hok
  · show _ = cap * 1
    simp [nums]; omega
  · show List.take (xs.length * 1) _ = _
    rw [Nat.mul_one]
    simp [nums]
  · obtain ⟨hjl, rfl⟩ := List.getElem?_eq_some_iff.1 hj
    show List.take 1 (List.drop (j * 1) (nums .i32 xs)) = [.int .i32 xs[j]]
    have hjn : j < (nums .i32 xs).length := by simpa [nums] using hjl
    rw [Nat.mul_one, List.drop_eq_getElem_cons hjn, List.take_succ_cons, List.take_zero]
    simp [nums]
theorem Reg.two {P Q R : List Int} {x y : Int} (h : Reg w g pre post (P ++ x :: (Q ++ y :: R))) {off p q : Nat} (ho : off = pre.length) (hp : p = P.length) (hq : q = P.length + 1 + Q.length) :
    w.cell? ⟨g, off + p, none⟩ = some (.int .i32 x) ∧ w.cell? ⟨g, off + q, none⟩ = some (.int .i32 y) ∧
    Reg ((w.setCell ⟨g, off + p, none⟩ (.int .i32 y)).setCell ⟨g, off + q, none⟩ (.int .i32 x)) g pre post (P ++ y :: (Q ++ x :: R)) ∧
    Reg ((w.setCell ⟨g, off + q, none⟩ (.int .i32 x)).setCell ⟨g, off + p, none⟩ (.int .i32 y)) g pre post (P ++ y :: (Q ++ x :: R)) := by
  subst ho hp hq
  refine ⟨?_, ?_, ?_, ?_⟩
  · have := h.at_ P.length (by simp)
    rw [Nc.get_at] at this
    exact this
  · have := h.at_ (P.length + 1 + Q.length) (by simp; omega)
    rw [Nc.get_at2] at this
    exact this
  · have h1 := (h.set P.length (by simp) y).set (P.length + 1 + Q.length) (by simp; omega) x
    rw [Nc.set2] at h1
    exact h1
  · have h1 := (h.set (P.length + 1 + Q.length) (by simp; omega) x).set P.length (by simp) y
    rw [Nc.set2'] at h1
    exact h1
theorem G_chg {S : Nat → Prop} (h : G w) (c : Chg S w w') (hS : ∀ k, k < 3 → ¬ S k) : G w' :=
  ⟨fun j v hv => cell_chg (h.1 j v hv) c (hS 0 (by decide)), fun j v hv => cell_chg (h.2.1 j v hv) c (hS 1 (by decide)), fun j v hv => cell_chg (h.2.2 j v hv) c (hS 2 (by decide))⟩
theorem G_size (h : G w) : 3 ≤ w.heap.size := by
  have := h.2.2 0 (.int .i32 768) rfl
  have := World.block_lt_of_cell? w _ this
  exact this
end
structure Aft (w : World) where
  w' : World
  hb : Below w.heap.size w w'
instance (w : World) : Inhabited (Aft w) := ⟨⟨w, Below.refl _ _⟩⟩
theorem wp_region_aft {P : Program} {id : Nat} {Q : Exit → Act → World → Prop} {a : Act} {w : World} {l : List Oper} (hm : P.follows .mixedOrders = true) (hB : Region.lexB .any l.toArray = true)
    (h : wpQuiet P l.toArray (fun w2 => ∃ p : Aft w, w2 = p.w') (fun a' => ∀ w2, (∃ p : Aft w, w2 = p.w') → Q .normal a' w2) l a) : (Code.region id l.toArray true).wp P Q a w :=
  wp_region_quiet (C := fun w2 => ∃ p : Aft w, w2 = p.w') hm hB ⟨⟨w.drew, below_drew (Below.refl _ _)⟩, rfl⟩ (by simpa using h)
theorem Aft.cell {w : World} (p : Aft w) {a : Addr} {v : Value} (h : w.cell? a = some v) : p.w'.cell? a = some v := (p.hb.cell (World.block_lt_of_cell? w a h)).trans h
theorem aft_of {P : Program} {f : FuncId} {args : Array Value} {w : World} {p : Aft w} {v : Value} (h : Calls P f args p.w' fun e w' => e = .returned v ∧ Below p.w'.heap.size p.w' w') : Calls P f args p.w' fun e w'' => e = .returned v ∧ ∃ q : Aft w, w'' = q.w' :=
  h.mono fun _ w2 ⟨he, hb⟩ => ⟨he, ⟨w2, below_then p.hb p.hb.size hb⟩, rfl⟩
end Go.Proofs.YtiggjbclbdikmaaDoor.Nb
namespace Go.Proofs.YtiggjbclbdikmaaDoor.X
open Go.RowKit Go.Proofs.YtiggjbclbdikmaaDoorW.PrintWords Go.Proofs.YtiggjbclbdikmaaDoorW.PrintLast Go.Proofs.YtiggjbclbdikmaaDoorW.PrintMore
attribute [local go_sem] max2_int min2_int max_two min_two max_three min_three max_four min_four   
set_option linter.unusedVariables false
set_option linter.unusedSimpArgs false
def errW : Option Int → Value
  | none => .nilIface
  | some c => .iface 0 (.int .i64 c)
theorem errW_none : errW none = .nilIface := rfl
theorem errW_some (c : Int) : errW (some c) = .iface 0 (.int .i64 c) := rfl
theorem info5 : (Tryd.prog.info? 5).map (fun i => (i.zero, i.size, i.bytes)) = some (some (.int .u8 0), 1, 1) := by kernel_rfl
theorem info21 : (Tryd.prog.info? 21).map (fun i => (i.zero, i.size, i.bytes)) = some (some (.int .i32 0), 1, 4) := by kernel_rfl
theorem info75 : (Tryd.prog.info? 75).map (fun i => (i.zero, i.size, i.bytes)) = some (some (.agg #[(.int .i32 0), (.int .i64 0), (.int .i64 0)]), 3, 24) := by kernel_rfl
structure S75 where
  f0 : Int
  f1 : Int
  f2 : Int
def z75 : S75 := ⟨(0 : Int), (0 : Int), (0 : Int)⟩
def k75 : Kd S75 := Kd.iso (Kd.pair (Kd.int .i32) (Kd.pair (Kd.int .i64) (Kd.int .i64))) (fun x : S75 => (x.f0, x.f1, x.f2))
theorem k75_open {w : World} {x : S75} {cs : List Value} (h : k75.K w x cs) : cs = [.int .i32 x.f0, .int .i64 x.f1, .int .i64 x.f2] := by
  obtain ⟨_, _, rfl, rfl, ⟨_, _, rfl, rfl, rfl⟩⟩ := h
  exact rfl
theorem k75_mkM (w : World) (base : Nat) (ok : Nat → Prop) (x : S75)  : k75.M w base ok x [.int .i32 x.f0, .int .i64 x.f1, .int .i64 x.f2] := ⟨[.int .i32 x.f0], [.int .i64 x.f1, .int .i64 x.f2], rfl, rfl, ⟨[.int .i64 x.f1], [.int .i64 x.f2], rfl, rfl, rfl⟩⟩
def rd_T75 (xs : List S75) (i : Int) : S75 := xs.getD i.toNat z75
theorem at_T75 {w : World} {A : Option Addr} {n : Nat} {xs : List S75} (h : Kd.C k75 w A n xs) (i : Int) (h0 : 0 ≤ i) (h1 : i < n) : ∃ ad , A = some ad ∧ w.cell? (ad.add (i.toNat * 3)) = some (.int .i32 (rd_T75 xs i).f0) ∧ w.cell? ⟨(ad.add (i.toNat * 3)).block, (ad.add (i.toNat * 3)).off + 1, none⟩ = some (.int .i64 (rd_T75 xs i).f1) ∧ w.cell? ⟨(ad.add (i.toNat * 3)).block, (ad.add (i.toNat * 3)).off + 2, none⟩ = some (.int .i64 (rd_T75 xs i).f2) := by
  obtain ⟨ad, c, e, _, hK, hc0⟩ := Kd.C_get h z75 i h0 h1
  have hc : ∀ j u, c[j]? = some u → w.cell? (ad.add (i.toNat * 3 + j)) = some u := hc0
  obtain rfl := k75_open hK
  exact ⟨ad, e, hc 0 _ rfl, by rw [← add_field _ _ 1 (by omega)]; exact hc 1 _ rfl, by rw [← add_field _ _ 2 (by omega)]; exact hc 2 _ rfl⟩
structure S69 where
  f0 : ByteArray
  f1 : Int
  f2 : Int
end Go.Proofs.YtiggjbclbdikmaaDoor.X
namespace Go.Proofs.YtiggjbclbdikmaaDoor.X
open Go.RowKit Go.Proofs.YtiggjbclbdikmaaDoorW.PrintWords Go.Proofs.YtiggjbclbdikmaaDoorW.PrintLast Go.Proofs.YtiggjbclbdikmaaDoorW.PrintMore
attribute [local go_sem] max2_int min2_int max_two min_two max_three min_three max_four min_four   
set_option linter.unusedVariables false
set_option linter.unusedSimpArgs false
def cmp_isNaN_int.f (a0 : Int) : Option (Bool) := some (a0 != a0)
set_option maxHeartbeats 8000000 in
set_option maxRecDepth 100000 in
theorem cmp_isNaN_int.calls (a0 : Int) (r : Bool) (w : World) (h : cmp_isNaN_int.f a0 = some r) :
  Calls Tryd.prog 91 #[.int .i64 a0] w fun e w' => e = .returned (.bool r) ∧ Drawn0 w w' := by
 have H : (some (a0 != a0)) = some r := h
 clear h
 obtain rfl := Option.some.inj H
 go_enter Tryd.func91, Tryd.ntmps91
 go_wp2
 go_ret
 exact ⟨by first | rfl | (simp; done) | (simp [*]; done), by repeat (first | exact Drawn0.refl _ | apply Drawn0.step)⟩
end Go.Proofs.YtiggjbclbdikmaaDoor.X
namespace Go.Proofs.YtiggjbclbdikmaaDoor.X
open Go.RowKit Go.Proofs.YtiggjbclbdikmaaDoorW.PrintWords Go.Proofs.YtiggjbclbdikmaaDoorW.PrintLast Go.Proofs.YtiggjbclbdikmaaDoorW.PrintMore
attribute [local go_sem] max2_int min2_int max_two min_two max_three min_three max_four min_four   
set_option linter.unusedVariables false
set_option linter.unusedSimpArgs false
def cmp_Compare_int.f (a0 : Int) (a1 : Int) : Option (Int) := (cmp_isNaN_int.f a0).bind fun t101 => ((cmp_isNaN_int.f a1).bind fun t102 => (if t101 = true then (if t102 = true then (some 0) else (some (-1))) else (if t102 = true then (some 1) else (if a0 < a1 then (some (-1)) else (if a0 > a1 then (some 1) else (some 0))))))
set_option maxHeartbeats 8000000 in
set_option maxRecDepth 100000 in
theorem cmp_Compare_int.calls (a0 : Int) (a1 : Int) (r : Int) (w : World) (h : cmp_Compare_int.f a0 a1 = some r) :
  Calls Tryd.prog 78 #[.int .i64 a0, .int .i64 a1] w fun e w' => e = .returned (.int .i64 r) ∧ Drawn0 w w' := by
 have H : ((cmp_isNaN_int.f a0).bind fun t101 => ((cmp_isNaN_int.f a1).bind fun t102 => (if t101 = true then (if t102 = true then (some 0) else (some (-1))) else (if t102 = true then (some 1) else (if a0 < a1 then (some (-1)) else (if a0 > a1 then (some 1) else (some 0))))))) = some r := h
 clear h
 replace H := Option.bind_eq_some_iff.mp H
 obtain ⟨t101, A30, H⟩ := H
 replace H : ((cmp_isNaN_int.f a1).bind fun t102 => (if t101 = true then (if t102 = true then (some 0) else (some (-1))) else (if t102 = true then (some 1) else (if a0 < a1 then (some (-1)) else (if a0 > a1 then (some 1) else (some 0)))))) = some r := H
 have A3 := Aside0.mk A30
 clear A30
 replace H := Option.bind_eq_some_iff.mp H
 obtain ⟨t102, A40, H⟩ := H
 replace H : (if t101 = true then (if t102 = true then (some 0) else (some (-1))) else (if t102 = true then (some 1) else (if a0 < a1 then (some (-1)) else (if a0 > a1 then (some 1) else (some 0))))) = some r := H
 have A4 := Aside0.mk A40
 clear A40
 by_cases c5 : t101 = true
 ·subst c5
  have H1 : (if t102 = true then (some 0) else (some (-1))) = some r := by rw [if_pos rfl] at H; exact H
  clear H
  have H := H1
  clear H1
  by_cases c6 : t102 = true
  ·subst c6
   have H1 : (some 0) = some r := by rw [if_pos rfl] at H; exact H
   clear H
   have H := H1
   clear H1
   obtain rfl := Option.some.inj H
   go_enter Tryd.func78, Tryd.ntmps78
   go_wp2_with (first | ((with_reducible refine gate_callee (f := 91) rfl ?_); refine goesL_ (some 8) rfl rfl Tryd.func91 (by kernel_rfl) rfl #[.int .i64 a0] rfl (by (try simp only [List.map_toArray, List.map_cons, List.map_nil]); first | done | rfl | (simp only [List.length_drop, List.length_take]; rfl)) ?_; (with_reducible refine (cmp_isNaN_int.calls a0 true _ A3.out).mono ?_); rintro e w' ⟨rfl, ⟨nd, rfl⟩⟩; refine ⟨_, rfl, ?_⟩) | ((with_reducible refine gate_callee (f := 91) rfl ?_); refine goesL_ (some 10) rfl rfl Tryd.func91 (by kernel_rfl) rfl #[.int .i64 a1] rfl (by (try simp only [List.map_toArray, List.map_cons, List.map_nil]); first | done | rfl | (simp only [List.length_drop, List.length_take]; rfl)) ?_; (with_reducible refine (cmp_isNaN_int.calls a1 true _ A4.out).mono ?_); rintro e w' ⟨rfl, ⟨nd, rfl⟩⟩; refine ⟨_, rfl, ?_⟩))
   go_ret
   exact ⟨by first | rfl | (simp; done) | (simp [*]; done), by repeat (first | exact Drawn0.refl _ | apply Drawn0.step)⟩
  ·replace c6 := Bool.eq_false_iff.mpr c6
   subst c6
   have H1 : (some (-1)) = some r := by rw [if_neg (show ¬ (false = true) by decide)] at H; exact H
   clear H
   have H := H1
   clear H1
   obtain rfl := Option.some.inj H
   go_enter Tryd.func78, Tryd.ntmps78
   go_wp2_with (first | ((with_reducible refine gate_callee (f := 91) rfl ?_); refine goesL_ (some 8) rfl rfl Tryd.func91 (by kernel_rfl) rfl #[.int .i64 a0] rfl (by (try simp only [List.map_toArray, List.map_cons, List.map_nil]); first | done | rfl | (simp only [List.length_drop, List.length_take]; rfl)) ?_; (with_reducible refine (cmp_isNaN_int.calls a0 true _ A3.out).mono ?_); rintro e w' ⟨rfl, ⟨nd, rfl⟩⟩; refine ⟨_, rfl, ?_⟩) | ((with_reducible refine gate_callee (f := 91) rfl ?_); refine goesL_ (some 10) rfl rfl Tryd.func91 (by kernel_rfl) rfl #[.int .i64 a1] rfl (by (try simp only [List.map_toArray, List.map_cons, List.map_nil]); first | done | rfl | (simp only [List.length_drop, List.length_take]; rfl)) ?_; (with_reducible refine (cmp_isNaN_int.calls a1 false _ A4.out).mono ?_); rintro e w' ⟨rfl, ⟨nd, rfl⟩⟩; refine ⟨_, rfl, ?_⟩))
   go_ret
   exact ⟨by first | rfl | (simp; done) | (simp [*]; done), by repeat (first | exact Drawn0.refl _ | apply Drawn0.step)⟩
 ·replace c5 := Bool.eq_false_iff.mpr c5
  subst c5
  have H1 : (if t102 = true then (some 1) else (if a0 < a1 then (some (-1)) else (if a0 > a1 then (some 1) else (some 0)))) = some r := by rw [if_neg (show ¬ (false = true) by decide)] at H; exact H
  clear H
  have H := H1
  clear H1
  by_cases c7 : t102 = true
  ·subst c7
   have H1 : (some 1) = some r := by rw [if_pos rfl] at H; exact H
   clear H
   have H := H1
   clear H1
   obtain rfl := Option.some.inj H
   go_enter Tryd.func78, Tryd.ntmps78
   go_wp2_with (first | ((with_reducible refine gate_callee (f := 91) rfl ?_); refine goesL_ (some 8) rfl rfl Tryd.func91 (by kernel_rfl) rfl #[.int .i64 a0] rfl (by (try simp only [List.map_toArray, List.map_cons, List.map_nil]); first | done | rfl | (simp only [List.length_drop, List.length_take]; rfl)) ?_; (with_reducible refine (cmp_isNaN_int.calls a0 false _ A3.out).mono ?_); rintro e w' ⟨rfl, ⟨nd, rfl⟩⟩; refine ⟨_, rfl, ?_⟩) | ((with_reducible refine gate_callee (f := 91) rfl ?_); refine goesL_ (some 10) rfl rfl Tryd.func91 (by kernel_rfl) rfl #[.int .i64 a1] rfl (by (try simp only [List.map_toArray, List.map_cons, List.map_nil]); first | done | rfl | (simp only [List.length_drop, List.length_take]; rfl)) ?_; (with_reducible refine (cmp_isNaN_int.calls a1 true _ A4.out).mono ?_); rintro e w' ⟨rfl, ⟨nd, rfl⟩⟩; refine ⟨_, rfl, ?_⟩))
   go_ret
   exact ⟨by first | rfl | (simp; done) | (simp [*]; done), by repeat (first | exact Drawn0.refl _ | apply Drawn0.step)⟩
  ·replace c7 := Bool.eq_false_iff.mpr c7
   subst c7
   have H1 : (if a0 < a1 then (some (-1)) else (if a0 > a1 then (some 1) else (some 0))) = some r := by rw [if_neg (show ¬ (false = true) by decide)] at H; exact H
   clear H
   have H := H1
   clear H1
   by_cases c8 : a0 < a1
   ·rw [if_pos c8] at H
    have c8b0 : decide (a0 < a1) = true := decide_eq_true c8
    clear c8
    obtain rfl := Option.some.inj H
    go_enter Tryd.func78, Tryd.ntmps78
    go_wp2_with (first | ((with_reducible refine gate_callee (f := 91) rfl ?_); refine goesL_ (some 8) rfl rfl Tryd.func91 (by kernel_rfl) rfl #[.int .i64 a0] rfl (by (try simp only [List.map_toArray, List.map_cons, List.map_nil]); first | done | rfl | (simp only [List.length_drop, List.length_take]; rfl)) ?_; (with_reducible refine (cmp_isNaN_int.calls a0 false _ A3.out).mono ?_); rintro e w' ⟨rfl, ⟨nd, rfl⟩⟩; refine ⟨_, rfl, ?_⟩) | ((with_reducible refine gate_callee (f := 91) rfl ?_); refine goesL_ (some 10) rfl rfl Tryd.func91 (by kernel_rfl) rfl #[.int .i64 a1] rfl (by (try simp only [List.map_toArray, List.map_cons, List.map_nil]); first | done | rfl | (simp only [List.length_drop, List.length_take]; rfl)) ?_; (with_reducible refine (cmp_isNaN_int.calls a1 false _ A4.out).mono ?_); rintro e w' ⟨rfl, ⟨nd, rfl⟩⟩; refine ⟨_, rfl, ?_⟩))
    go_ret
    exact ⟨by first | rfl | (simp; done) | (simp [*]; done), by repeat (first | exact Drawn0.refl _ | apply Drawn0.step)⟩
   ·rw [if_neg c8] at H
    have c8b0 : decide (a0 < a1) = false := decide_eq_false c8
    clear c8
    by_cases c9 : a0 > a1
    ·rw [if_pos c9] at H
     have c9b0 : decide (a1 < a0) = true := decide_eq_true c9
     clear c9
     obtain rfl := Option.some.inj H
     go_enter Tryd.func78, Tryd.ntmps78
     go_wp2_with (first | ((with_reducible refine gate_callee (f := 91) rfl ?_); refine goesL_ (some 8) rfl rfl Tryd.func91 (by kernel_rfl) rfl #[.int .i64 a0] rfl (by (try simp only [List.map_toArray, List.map_cons, List.map_nil]); first | done | rfl | (simp only [List.length_drop, List.length_take]; rfl)) ?_; (with_reducible refine (cmp_isNaN_int.calls a0 false _ A3.out).mono ?_); rintro e w' ⟨rfl, ⟨nd, rfl⟩⟩; refine ⟨_, rfl, ?_⟩) | ((with_reducible refine gate_callee (f := 91) rfl ?_); refine goesL_ (some 10) rfl rfl Tryd.func91 (by kernel_rfl) rfl #[.int .i64 a1] rfl (by (try simp only [List.map_toArray, List.map_cons, List.map_nil]); first | done | rfl | (simp only [List.length_drop, List.length_take]; rfl)) ?_; (with_reducible refine (cmp_isNaN_int.calls a1 false _ A4.out).mono ?_); rintro e w' ⟨rfl, ⟨nd, rfl⟩⟩; refine ⟨_, rfl, ?_⟩))
     go_ret
     exact ⟨by first | rfl | (simp; done) | (simp [*]; done), by repeat (first | exact Drawn0.refl _ | apply Drawn0.step)⟩
    ·rw [if_neg c9] at H
     have c9b0 : decide (a1 < a0) = false := decide_eq_false c9
     clear c9
     obtain rfl := Option.some.inj H
     go_enter Tryd.func78, Tryd.ntmps78
     go_wp2_with (first | ((with_reducible refine gate_callee (f := 91) rfl ?_); refine goesL_ (some 8) rfl rfl Tryd.func91 (by kernel_rfl) rfl #[.int .i64 a0] rfl (by (try simp only [List.map_toArray, List.map_cons, List.map_nil]); first | done | rfl | (simp only [List.length_drop, List.length_take]; rfl)) ?_; (with_reducible refine (cmp_isNaN_int.calls a0 false _ A3.out).mono ?_); rintro e w' ⟨rfl, ⟨nd, rfl⟩⟩; refine ⟨_, rfl, ?_⟩) | ((with_reducible refine gate_callee (f := 91) rfl ?_); refine goesL_ (some 10) rfl rfl Tryd.func91 (by kernel_rfl) rfl #[.int .i64 a1] rfl (by (try simp only [List.map_toArray, List.map_cons, List.map_nil]); first | done | rfl | (simp only [List.length_drop, List.length_take]; rfl)) ?_; (with_reducible refine (cmp_isNaN_int.calls a1 false _ A4.out).mono ?_); rintro e w' ⟨rfl, ⟨nd, rfl⟩⟩; refine ⟨_, rfl, ?_⟩))
     go_ret
     exact ⟨by first | rfl | (simp; done) | (simp [*]; done), by repeat (first | exact Drawn0.refl _ | apply Drawn0.step)⟩
end Go.Proofs.YtiggjbclbdikmaaDoor.X
namespace Go.Proofs.YtiggjbclbdikmaaDoor.Nd
set_option linter.unusedVariables false
set_option linter.unusedSimpArgs false
open Go.RowKit Go.Proofs.YtiggjbclbdikmaaDoorW.PrintWords Go.Proofs.YtiggjbclbdikmaaDoor.Hp Go.Proofs.YtiggjbclbdikmaaDoor.Va Go.Proofs.YtiggjbclbdikmaaDoor.Na Go.Proofs.YtiggjbclbdikmaaDoor.Nb Go.Proofs.YtiggjbclbdikmaaDoor.Nc
def cmpv (a b : Int) : Int := if a < b then -1 else if b < a then 1 else 0
theorem cmpv_neg (a b : Int) : decide (cmpv a b < 0) = decide (a < b) := by
  rw [decide_eq_decide]
  unfold cmpv
  split
  · simp; assumption
  · split <;> simp <;> omega
theorem cmp_pure (a b : Int) : X.cmp_Compare_int.f a b = some (cmpv a b) := by
  unfold X.cmp_Compare_int.f X.cmp_isNaN_int.f cmpv
  simp
  split
  · rfl
  · split <;> rfl
def fv : Value := .func (.func 77) #[] #[]
set_option maxRecDepth 100000 in
set_option maxHeartbeats 1000000 in
theorem CmpP (w : World) (hG : G w) (a b : Int) : Calls Tryd.prog 77 #[.int .i32 a, .int .i32 b] w fun e w' => e = .returned (.int .i64 (cmpv (cls a) (cls b))) ∧ Below w.heap.size w w' := by
  have HG := Aside0.mk hG
  clear hG
  go_enter Tryd.func77, Tryd.ntmps77
  go_wp2_with (first | (go_at_call 62; (with_reducible refine (ClassP w HG.out a).mono ?_); rintro e w1 ⟨rfl, p1⟩; have B1 := Aside0.mk p1; clear p1) | (go_at_call 62; (with_reducible refine (ClassP w1 (HG.out.below B1.out) b).mono ?_); rintro e w2 ⟨rfl, p2⟩; have B2 := Aside0.mk (below_then B1.out B1.out.size p2); clear p2) | (go_at_call 78; go_must (refine (X.cmp_Compare_int.calls (cls a) (cls b) _ w2 (cmp_pure _ _)).mono ?_; rintro e w3 ⟨rfl, p3⟩; have B3 := Aside0.mk (below_then B2.out B2.out.size p3.below); clear p3)))
  go_ret
  exact ⟨rfl, B3.out⟩
def InsPost (w : World) (g : Nat) (pre post : List Value) (A seg C : List Int) (e : Ending) (w' : World) : Prop :=
  e = .returned (.tuple #[]) ∧ Chg (fun b => b = g) w w' ∧ ∃ S, Reg w' g pre post (A ++ S ++ C) ∧ Srt S ∧ Sw seg S
set_option maxRecDepth 100000 in
set_option maxHeartbeats 2000000 in
theorem InsP (w : World) (hG : G w) (g : Nat) (hg : 3 ≤ g) (pre post : List Value) (A seg C : List Int) (c : Nat) (hR : Reg w g pre post (A ++ seg ++ C)) (n : Nat) (hn : n = (A ++ seg ++ C).length) (hn5 : n ≤ 1000000000000000) (off : Nat) (hoff : off = pre.length) (a b : Nat) (ha : a = A.length) (hb : b = A.length + seg.length) :
    Calls Tryd.prog 96 #[.slice (some ⟨g, off, none⟩) n c, .int .i64 (a : Int), .int .i64 (b : Int), .func (.func 77) #[] #[]] w (InsPost w g pre post A seg C) := by
  have HG := Aside0.mk hG
  have HR := Aside0.mk hR
  have HN := Aside0.mk hn
  have HF := Aside0.mk hoff
  have HA := Aside0.mk ha
  have HB := Aside0.mk hb
  have hbn : b ≤ n := by rw [hb, hn]; simp
  have hab : a ≤ b := by omega
  clear hG hR hn hoff ha hb
  go_enter Tryd.func96, Tryd.ntmps96
  go_wp2
  go_loopw [8] (fun iv wr => ∃ (i : Nat) (D rest S : List Int), iv = .int .i64 i ∧ i ≤ b + 1 ∧ Aside0 (D ++ rest = seg) ∧ Aside0 (i = a + D.length ∨ (seg = [] ∧ i = a + 1)) ∧ Aside0 (Srt S ∧ Sw D S) ∧ Aside0 (Reg wr g pre post (A ++ S ++ rest ++ C)) ∧ Aside0 (Chg (fun b => b = g) w wr)) (fun iv _ => b + 1 - (intOf iv).toNat)
  case atStart =>
    cases seg with
    | nil => exact ⟨a + 1, [], [], [], by go_num, by omega, ⟨rfl⟩, ⟨.inr ⟨rfl, rfl⟩⟩, ⟨⟨List.Pairwise.nil, Sw.refl _⟩⟩, ⟨by have := HR.out; simpa using this⟩, ⟨Chg.refl _ _⟩⟩
    | cons x t => exact ⟨a + 1, [x], t, [x], by go_num, by omega, ⟨rfl⟩, ⟨.inl rfl⟩, ⟨⟨List.pairwise_singleton .., Sw.refl _⟩⟩, ⟨by have := HR.out; simpa using this⟩, ⟨Chg.refl _ _⟩⟩
  case round =>
    obtain ⟨i, D, rest, S, rfl, hi, HD, HI, HS, HRr, HC⟩ := hrel
    by_cases hlt : i < b
    · have hd : decide ((i : Int) < (b : Int)) = true := decide_eq_true (by omega)
      obtain ⟨x, rest', hx⟩ : ∃ x r, rest = x :: r := by
        cases rest with
        | nil =>
          have h1 := HD.out; have h2 := HI.out; have h3 := HB.out; have h4 := HA.out
          rw [List.append_nil] at h1
          subst h1
          rcases h2 with h2 | ⟨h2, h5⟩
          · omega
          · rw [h2] at h3; simp at h3; omega
        | cons x r => exact ⟨x, r, rfl⟩
      subst hx
      have HI1 : Aside0 (i = a + D.length) := ⟨by rcases HI.out with h | ⟨h, _⟩; exact h; exact absurd HD.out (by rw [h]; simp)⟩
      have HL : Aside0 (S.length = D.length) := ⟨HS.out.2.length.symm⟩
      clear HI
      go_wp2
      go_loopw [9] (fun jv w2 => ∃ (j : Nat) (L R : List Int), jv = .int .i64 j ∧ j ≤ i ∧ Aside0 (j = a + L.length) ∧ Aside0 (WayL S L x R) ∧ Aside0 (Reg w2 g pre post (A ++ (L ++ x :: R) ++ rest' ++ C)) ∧ Aside0 (Chg (fun b => b = g) w w2)) (fun jv _ => (intOf jv).toNat)
      case atStart => exact ⟨i, S, [], rfl, Nat.le_refl _, ⟨by rw [HI1.out, HL.out]⟩, ⟨WayL.start S x⟩, ⟨by have := HRr.out; simpa using this⟩, HC⟩
      case round =>
        obtain ⟨j, L, R, rfl, hji, HJ, HWy, HR2, HC2⟩ := hrel
        clear HRr HC
        rcases List.eq_nil_or_concat L with hL | ⟨L', y, hL⟩
        · have hjn : ¬ a < j := by have := HJ.out; rw [hL] at this; simp at this; omega
          have hja : decide ((a : Int) < (j : Int)) = false := decide_eq_false (by omega)
          have hja2 : decide (a < j) = false := decide_eq_false hjn
          subst hL
          have HS3 := Aside0.mk (HWy.out.stop HS.out.1 (by simp))
          have HD3 := Aside0.mk (HD.out)
          go_wp2
          go_quiet (fail)
          go_wp2
          go_roundw
          case rel => exact ⟨i + 1, D ++ [x], rest', [] ++ x :: R, by go_num, by omega, ⟨by rw [← HD.out]; simp⟩, ⟨.inl (by have := HI1.out; simp; omega)⟩, ⟨HS3.out.1, (HS.out.2.append (Sw.refl [x])).trans HS3.out.2⟩, ⟨by have := HR2.out.drewN nq; simpa using this⟩, ⟨HC2.out.drewN nq⟩⟩
          case measure => simp [intOf]; omega
        · rw [List.concat_eq_append] at hL
          subst hL
          obtain ⟨jp, rfl⟩ : ∃ q, j = q + 1 := ⟨j - 1, by have := HJ.out; simp at this; omega⟩
          have hja : decide ((a : Int) < (jp : Int) + 1) = true := decide_eq_true (by have := HJ.out; simp at this; omega)
          have hP : (A ++ (L' ++ [y] ++ x :: R) ++ rest' ++ C) = (A ++ L') ++ y :: ([] ++ x :: (R ++ rest' ++ C)) := by simp
          have hR2 := HR2.out
          rw [hP] at hR2
          have hpl : jp = (A ++ L').length := by have h1 := HJ.out; have h2 := HA.out; simp at h1 ⊢; omega
          obtain ⟨c2, c1, -, -⟩ := hR2.two HF.out hpl (q := jp + 1) (by rw [hpl]; rfl)
          have HR3 := Aside0.mk hR2
          have HPL := Aside0.mk hpl
          have hjn : (jp : Int) + 1 < (n : Int) := by omega
          have hj1 : ((jp : Int) + 1).toNat = jp + 1 := by omega
          have hj2 : (0 : Int) ≤ (jp : Int) + 1 := by omega
          have hj3 : IntKind.i64.wrap ((jp : Int)) = (jp : Int) := IntWalk.i64_in _ (by omega)
          have hj4 : (jp : Int) < (n : Int) := by omega
          have hj5 : (0 : Int) ≤ (jp : Int) := by omega
          clear hP hpl hR2
          have l1 : ∀ p : Aft wr, p.w'.cell? ⟨g, off + (jp + 1), none⟩ = some (.int .i32 x) := fun p => p.cell c1
          have l2 : ∀ p : Aft wr, p.w'.cell? ⟨g, off + jp, none⟩ = some (.int .i32 y) := fun p => p.cell c2
          have hG2 : ∀ p : Aft wr, G p.w' := fun p => (G_chg HG.out HC2.out (fun k hk e => by omega)).below p.hb
          have HG2 := Aside0.mk hG2
          clear hG2 c1 c2
          by_cases hxy : cls x < cls y
          · have hc : decide (cmpv (cls x) (cls y) < 0) = true := by rw [cmpv_neg]; exact decide_eq_true hxy
            go_wp2
            refine wp_region_aft (by kernel_rfl) (by kernel_rfl) ?_
            repeat (quiet_step (first | (go_at_call 77; exact aft_of (CmpP _ (HG2.out _) x y))))
            refine wpQuiet_nil ?_
            rintro w3 ⟨⟨_, hb3⟩, rfl⟩
            have hR4 := HR3.out.below hb3
            have HR4 := Aside0.mk hR4
            have hC4 := Aside0.mk (HC2.out.then_below hb3)
            obtain ⟨c2, c1, -, hSw⟩ := hR4.two HF.out HPL.out (q := jp + 1) (by rw [HPL.out]; rfl)
            have f1 := hR4.free (off + (jp + 1))
            have f2 := hR4.free (off + jp)
            obtain ⟨u, c3⟩ : ∃ u, (w3.setCell ⟨g, off + (jp + 1), none⟩ (.int .i32 y)).cell? ⟨g, off + jp, none⟩ = some u := cell?_setCell_some c2
            have HSw := Aside0.mk hSw
            clear l1 l2 hc hR4 hSw hb3 HG2
            go_wp2
            go_big_region
            have HR5 := Aside0.mk (HSw.out.drew)
            have HC5 := Aside0.mk (((hC4.out.setCell (p := ⟨g, off + (jp + 1), none⟩) (.inl rfl) (.int .i32 y)).setCell (p := ⟨g, off + jp, none⟩) (.inl rfl) (.int .i32 x)).drew)
            clear HSw hC4 c1 c2 c3 f1 f2
            generalize ((w3.setCell ⟨g, off + (jp + 1), none⟩ (.int .i32 y)).setCell ⟨g, off + jp, none⟩ (.int .i32 x)).drew = w4 at HR5 HC5 ⊢
            go_wp2
            go_roundw
            case rel => exact ⟨jp, L', y :: R, by go_num, by omega, ⟨by have h1 := HJ.out; simp only [List.length_append, List.length_cons, List.length_nil] at h1; omega⟩, ⟨HWy.out.step hxy⟩, ⟨by have := HR5.out; simpa using this⟩, HC5⟩
            case measure => simp [intOf]
          · have hc : decide (cmpv (cls x) (cls y) < 0) = false := by rw [cmpv_neg]; exact decide_eq_false hxy
            have HS3 := Aside0.mk (HWy.out.stop HS.out.1 (last_le (srt_left (HWy.out.all ▸ HS.out.1)) (by omega)))
            go_wp2
            refine wp_region_aft (by kernel_rfl) (by kernel_rfl) ?_
            repeat (quiet_step (first | (go_at_call 77; exact aft_of (CmpP _ (HG2.out _) x y))))
            refine wpQuiet_nil ?_
            rintro w3 ⟨⟨_, hb3⟩, rfl⟩
            have HR4 := Aside0.mk (HR3.out.below hb3)
            have HC4 := Aside0.mk (HC2.out.then_below hb3)
            clear l1 l2 hc hb3 HG2 hj1 hj2 hj3 hj4 hj5
            go_wp2
            go_roundw
            case rel => exact ⟨i + 1, D ++ [x], rest', (L' ++ [y]) ++ x :: R, by go_num, by omega, ⟨by rw [← HD.out]; simp⟩, ⟨.inl (by have := HI1.out; simp; omega)⟩, ⟨HS3.out.1, (HS.out.2.append (Sw.refl [x])).trans HS3.out.2⟩, ⟨by have := HR4.out; simpa using this⟩, HC4⟩
            case measure => simp [intOf]; omega
    · have hd : decide ((i : Int) < (b : Int)) = false := decide_eq_false (by omega)
      have hrest : rest = [] := by
        have h1 := congrArg List.length HD.out
        have h2 := HB.out
        have h3 := HA.out
        rcases HI.out with h | ⟨h, h4⟩
        · simp at h1
          exact List.eq_nil_of_length_eq_zero (by omega)
        · rw [h] at h1; simp at h1; exact h1.2
      subst hrest
      have HDD : Aside0 (D = seg) := ⟨by have := HD.out; rwa [List.append_nil] at this⟩
      go_wp2
      go_end0
      exact ⟨rfl, HC.out, S, by have := HRr.out; rwa [List.append_nil] at this, HS.out.1, HDD.out ▸ HS.out.2⟩
end Go.Proofs.YtiggjbclbdikmaaDoor.Nd
namespace Go.Proofs.YtiggjbclbdikmaaDoor.Nr
set_option linter.unusedVariables false
set_option linter.unusedSimpArgs false
open Go.RowKit Go.Proofs.YtiggjbclbdikmaaDoorW.PrintWords Go.Proofs.YtiggjbclbdikmaaDoor.Hp Go.Proofs.YtiggjbclbdikmaaDoor.Va Go.Proofs.YtiggjbclbdikmaaDoor.Na Go.Proofs.YtiggjbclbdikmaaDoor.Nb Go.Proofs.YtiggjbclbdikmaaDoor.Nc Go.Proofs.YtiggjbclbdikmaaDoor.Nd
def TurnPost (w : World) (g : Nat) (pre post : List Value) (T : List Int) (e : Ending) (w' : World) : Prop :=
  e = .returned (.tuple #[]) ∧ Chg (fun b => b = g) w w' ∧ Reg w' g pre post T
set_option maxRecDepth 100000 in
set_option maxHeartbeats 2000000 in
theorem SwpP (w : World) (g : Nat) (pre post : List Value) (A U M V B : List Int) (c : Nat) (hR : Reg w g pre post (A ++ U ++ M ++ V ++ B)) (n : Nat) (hn : n = (A ++ U ++ M ++ V ++ B).length) (hn5 : n ≤ 1000000000000000) (off : Nat) (hoff : off = pre.length) (a b k : Nat) (ha : a = A.length) (hb : b = A.length + U.length + M.length) (hk : k = U.length) (hk2 : k = V.length) :
    Calls Tryd.prog 99 #[.slice (some ⟨g, off, none⟩) n c, .int .i64 (a : Int), .int .i64 (b : Int), .int .i64 (k : Int), .func (.func 77) #[] #[]] w (TurnPost w g pre post (A ++ V ++ M ++ U ++ B)) := by
  have HR := Aside0.mk hR
  have HF := Aside0.mk hoff
  have HA := Aside0.mk ha
  have HB := Aside0.mk hb
  have HK := Aside0.mk hk
  have HK2 := Aside0.mk hk2
  have hbn : b + k ≤ n := by rw [hb, hn, hk2]; simp; omega
  have han : a + k ≤ n := by omega
  clear hR hn hoff ha hb hk hk2
  go_enter Tryd.func99, Tryd.ntmps99
  go_wp2
  go_loopw [10] (fun iv wr => ∃ i : Nat, iv = .int .i64 i ∧ i ≤ k ∧ Aside0 (Reg wr g pre post (A ++ V.take i ++ U.drop i ++ M ++ U.take i ++ V.drop i ++ B)) ∧ Aside0 (Chg (fun b => b = g) w wr)) (fun iv _ => k - (intOf iv).toNat)
  case atStart => exact ⟨0, rfl, Nat.zero_le _, ⟨by have := HR.out; simpa using this⟩, ⟨Chg.refl _ _⟩⟩
  case round =>
    obtain ⟨i, rfl, hi, HRr, HC⟩ := hrel
    by_cases hlt : i < k
    · have hd : decide ((i : Int) < (k : Int)) = true := decide_eq_true (by omega)
      obtain ⟨u, hu⟩ : ∃ u, U.drop i = u :: U.drop (i + 1) ∧ U.take (i + 1) = U.take i ++ [u] := ⟨U[i]'(by have := HK.out; omega), by rw [List.drop_eq_getElem_cons], by rw [List.take_succ_eq_append_getElem]⟩
      obtain ⟨v, hv⟩ : ∃ v, V.drop i = v :: V.drop (i + 1) ∧ V.take (i + 1) = V.take i ++ [v] := ⟨V[i]'(by have := HK2.out; omega), by rw [List.drop_eq_getElem_cons], by rw [List.take_succ_eq_append_getElem]⟩
      have hr := HRr.out
      rw [hu.1, hv.1, show A ++ V.take i ++ (u :: U.drop (i + 1)) ++ M ++ U.take i ++ (v :: V.drop (i + 1)) ++ B = (A ++ V.take i) ++ u :: ((U.drop (i + 1) ++ M ++ U.take i) ++ v :: (V.drop (i + 1) ++ B)) by simp] at hr
      obtain ⟨c1, c2, hSw, -⟩ := hr.two HF.out (p := a + i) (q := b + i) (by have := HA.out; have := HK2.out; simp; omega) (by have := HB.out; have := HK.out; have := HK2.out; simp; omega)
      have f1 := hr.free (off + (a + i))
      have f2 := hr.free (off + (b + i))
      obtain ⟨z, c3⟩ : ∃ z, (wr.setCell ⟨g, off + (a + i), none⟩ (.int .i32 v)).cell? ⟨g, off + (b + i), none⟩ = some z := by
        by_cases e : (⟨g, off + (a + i), none⟩ : Addr) = ⟨g, off + (b + i), none⟩
        · rw [← e]; exact ⟨_, World.cell?_setCell_same wr _ _ c1⟩
        · exact ⟨_, (World.cell?_setCell_other wr _ _ _ e).trans c2⟩
      have hj1 : ((a : Int) + (i : Int)).toNat = a + i := by omega
      have hj2 : (0 : Int) ≤ (a : Int) + (i : Int) := by omega
      have hj3 : (a : Int) + (i : Int) < (n : Int) := by omega
      have hj4 : IntKind.i64.wrap ((a : Int) + (i : Int)) = (a : Int) + (i : Int) := IntWalk.i64_in _ (by omega)
      have hk1 : ((b : Int) + (i : Int)).toNat = b + i := by omega
      have hk2 : (0 : Int) ≤ (b : Int) + (i : Int) := by omega
      have hk3 : (b : Int) + (i : Int) < (n : Int) := by omega
      have hk4 : IntKind.i64.wrap ((b : Int) + (i : Int)) = (b : Int) + (i : Int) := IntWalk.i64_in _ (by omega)
      have HSw := Aside0.mk hSw
      have HU := Aside0.mk hu
      have HV := Aside0.mk hv
      clear hSw hu hv hr
      go_wp2
      go_big_region
      have HR5 := Aside0.mk (HSw.out.drew)
      have HC5 := Aside0.mk (((HC.out.setCell (p := ⟨g, off + (a + i), none⟩) (.inl rfl) (.int .i32 v)).setCell (p := ⟨g, off + (b + i), none⟩) (.inl rfl) (.int .i32 u)).drew)
      clear HSw HC c1 c2 c3 f1 f2 hj1 hj2 hj3 hj4 hk1 hk2 hk3 hk4
      generalize ((wr.setCell ⟨g, off + (a + i), none⟩ (.int .i32 v)).setCell ⟨g, off + (b + i), none⟩ (.int .i32 u)).drew = w4 at HR5 HC5 ⊢
      go_wp2
      go_roundw
      case rel => exact ⟨i + 1, by go_num, by omega, ⟨by rw [HU.out.2, HV.out.2]; have := HR5.out; simpa using this⟩, HC5⟩
      case measure => simp [intOf] <;> omega
    · have hd : decide ((i : Int) < (k : Int)) = false := decide_eq_false (by omega)
      obtain rfl : i = k := by omega
      have hr := HRr.out
      rw [List.take_of_length_le (by have := HK2.out; omega), List.drop_of_length_le (by have := HK.out; omega), List.take_of_length_le (by have := HK.out; omega), List.drop_of_length_le (by have := HK2.out; omega)] at hr
      have HR5 := Aside0.mk (show Reg wr g pre post (A ++ V ++ M ++ U ++ B) by simpa using hr)
      clear hr
      go_wp2
      go_end0
      exact ⟨rfl, HC.out, HR5.out⟩
set_option maxRecDepth 100000 in
set_option maxHeartbeats 2000000 in
theorem RotP (w : World) (g : Nat) (pre post : List Value) (A U V B : List Int) (c : Nat) (hR : Reg w g pre post (A ++ U ++ V ++ B)) (hU : 0 < U.length) (hV : 0 < V.length) (n : Nat) (hn : n = (A ++ U ++ V ++ B).length) (hn5 : n ≤ 1000000000000000) (off : Nat) (hoff : off = pre.length) (a m b : Nat) (ha : a = A.length) (hm : m = A.length + U.length) (hb : b = A.length + U.length + V.length) :
    Calls Tryd.prog 98 #[.slice (some ⟨g, off, none⟩) n c, .int .i64 (a : Int), .int .i64 (m : Int), .int .i64 (b : Int), .func (.func 77) #[] #[]] w (TurnPost w g pre post (A ++ V ++ U ++ B)) := by
  have HR := Aside0.mk hR
  have HF := Aside0.mk hoff
  have HA := Aside0.mk ha
  have HM := Aside0.mk hm
  have HB := Aside0.mk hb
  have HN := Aside0.mk hn
  have HUV := Aside0.mk (And.intro hU hV)
  have hmn : m ≤ n := by rw [hm, hn]; simp <;> omega
  have hbn : b ≤ n := by rw [hb, hn]; simp <;> omega
  have ham : a ≤ m := by omega
  have hmb : m ≤ b := by omega
  have e1 : (m : Int) - (a : Int) = ((m - a : Nat) : Int) := by omega
  have e2 : (b : Int) - (m : Int) = ((b - m : Nat) : Int) := by omega
  clear hR hn hoff ha hb hm hU hV
  go_enter Tryd.func98, Tryd.ntmps98
  go_wp2
  go_loopw [10, 11] (fun iv jv wr => ∃ (i j : Nat) (A' U' V' B' : List Int), iv = .int .i64 i ∧ jv = .int .i64 j ∧ 0 < i ∧ 0 < j ∧ i ≤ m ∧ m + j ≤ n ∧ Aside0 (i = U'.length ∧ j = V'.length ∧ A'.length + i = m) ∧ Aside0 (A' ++ V' ++ U' ++ B' = A ++ V ++ U ++ B) ∧ Aside0 (Reg wr g pre post (A' ++ U' ++ V' ++ B')) ∧ Aside0 (Chg (fun b => b = g) w wr)) (fun iv jv _ => (intOf iv).toNat + (intOf jv).toNat)
  case atStart => exact ⟨m - a, b - m, A, U, V, B, rfl, rfl, by have := HA.out; have := HM.out; have := HUV.out; omega, by have := HB.out; have := HM.out; have := HUV.out; omega, by omega, by omega, ⟨by have := HA.out; have := HM.out; omega, by have := HB.out; have := HM.out; omega, by have := HA.out; have := HM.out; omega⟩, ⟨rfl⟩, HR, ⟨Chg.refl _ _⟩⟩
  case round =>
    obtain ⟨i, j, A', U', V', B', rfl, rfl, hi0, hj0, him, hjn, HL, HE, HRr, HC⟩ := hrel
    have HNl : Aside0 (n = (A' ++ U' ++ V' ++ B').length) := ⟨by
      have h1 := congrArg List.length HE.out
      rw [HN.out]; simp at h1 ⊢; omega⟩
    have e3 : (m : Int) - (i : Int) = ((m - i : Nat) : Int) := by omega
    rcases Nat.lt_trichotomy i j with hij | hij | hij
    · have hd : ((i : Int) != (j : Int)) = true := by simp <;> omega
      have hd2 : decide ((j : Int) < (i : Int)) = false := decide_eq_false (by omega)
      have hd3 : decide (j < i) = false := decide_eq_false (by omega)
      have e4 : (m : Int) + (j : Int) - (i : Int) = ((m + j - i : Nat) : Int) := by omega
      have e5 : (j : Int) - (i : Int) = ((j - i : Nat) : Int) := by omega
      obtain ⟨V1, V2, hv, hv2⟩ : ∃ V1 V2, V' = V1 ++ V2 ∧ V2.length = i := ⟨V'.take (j - i), V'.drop (j - i), (List.take_append_drop _ _).symm, by have := HL.out; rw [List.length_drop]; omega⟩
      have HV := Aside0.mk (And.intro hv hv2)
      have HCall := Aside0.mk (SwpP wr g pre post A' U' V1 V2 B' c (by have := HRr.out; rw [hv] at this; simpa using this) n (by rw [HNl.out, hv]; simp <;> omega) hn5 off HF.out (m - i) (m + j - i) i (by have := HL.out; omega) (by have h1 := HL.out; rw [hv] at h1; simp only [List.length_append] at h1; omega) HL.out.1 hv2.symm)
      clear hv hv2
      go_wp2_with (first | (go_at_call 99; go_must (refine HCall.out.mono ?_; rintro e w2 ⟨rfl, p1, p2⟩; have C2 := Aside0.mk (HC.out.trans p1 (fun _ _ h => h)); have R2 := Aside0.mk p2; clear p1 p2)))
      go_roundw
      case rel => exact ⟨i, j - i, A', V2, V1, U' ++ B', by rfl, by go_num, by omega, by omega, by omega, by omega, ⟨HV.out.2.symm, by have := HL.out; have h2 := congrArg List.length HV.out.1; have := HV.out.2; simp at h2; omega, HL.out.2.2⟩, ⟨by rw [← HE.out, HV.out.1]; simp⟩, ⟨by have := R2.out; simpa using this⟩, C2⟩
      case measure => simp [intOf] <;> omega
    · subst hij
      have hd : ((i : Int) != (i : Int)) = false := by simp
      have HCall := Aside0.mk (SwpP wr g pre post A' U' [] V' B' c (by have := HRr.out; simpa using this) n (by rw [HNl.out]; simp) hn5 off HF.out (m - i) m i (by have := HL.out; omega) (by have := HL.out; simp only [List.length_nil]; omega) HL.out.1 HL.out.2.1)
      go_wp2_with (first | (go_at_call 99; go_must (refine HCall.out.mono ?_; rintro e w2 ⟨rfl, p1, p2⟩; have C2 := Aside0.mk (HC.out.trans p1 (fun _ _ h => h)); have R2 := Aside0.mk p2; clear p1 p2)))
      go_end0
      exact ⟨rfl, C2.out, by rw [← HE.out]; have := R2.out; simpa using this⟩
    · have hd : ((i : Int) != (j : Int)) = true := by simp <;> omega
      have hd2 : decide ((j : Int) < (i : Int)) = true := decide_eq_true (by omega)
      have hd3 : decide (j < i) = true := decide_eq_true (by omega)
      have e5 : (i : Int) - (j : Int) = ((i - j : Nat) : Int) := by omega
      obtain ⟨U1, U2, hv, hv2⟩ : ∃ U1 U2, U' = U1 ++ U2 ∧ U1.length = j := ⟨U'.take j, U'.drop j, (List.take_append_drop _ _).symm, by have := HL.out; rw [List.length_take]; omega⟩
      have HV := Aside0.mk (And.intro hv hv2)
      have HCall := Aside0.mk (SwpP wr g pre post A' U1 U2 V' B' c (by have := HRr.out; rw [hv] at this; simpa using this) n (by rw [HNl.out, hv]; simp <;> omega) hn5 off HF.out (m - i) m j (by have := HL.out; omega) (by have h1 := HL.out; rw [hv] at h1; simp only [List.length_append] at h1; omega) hv2.symm HL.out.2.1)
      clear hv hv2
      go_wp2_with (first | (go_at_call 99; go_must (refine HCall.out.mono ?_; rintro e w2 ⟨rfl, p1, p2⟩; have C2 := Aside0.mk (HC.out.trans p1 (fun _ _ h => h)); have R2 := Aside0.mk p2; clear p1 p2)))
      go_roundw
      case rel => exact ⟨i - j, j, A' ++ V', U2, U1, B', by go_num, by rfl, by omega, by omega, by omega, by omega, ⟨by have := HL.out; have h2 := congrArg List.length HV.out.1; have := HV.out.2; simp at h2; omega, HV.out.2.symm, by have := HL.out; simp; omega⟩, ⟨by rw [← HE.out, HV.out.1]; simp⟩, ⟨by have := R2.out; simpa using this⟩, C2⟩
      case measure => simp [intOf] <;> omega
end Go.Proofs.YtiggjbclbdikmaaDoor.Nr
namespace Go.Proofs.YtiggjbclbdikmaaDoor.Ns
set_option linter.unusedVariables false
set_option linter.unusedSimpArgs false
open Go.RowKit Go.Proofs.YtiggjbclbdikmaaDoorW.PrintWords Go.Proofs.YtiggjbclbdikmaaDoor.Hp Go.Proofs.YtiggjbclbdikmaaDoor.Va Go.Proofs.YtiggjbclbdikmaaDoor.Na Go.Proofs.YtiggjbclbdikmaaDoor.Nb Go.Proofs.YtiggjbclbdikmaaDoor.Nc Go.Proofs.YtiggjbclbdikmaaDoor.Nd Go.Proofs.YtiggjbclbdikmaaDoor.Nr
theorem Reg.one {w : World} {g : Nat} {pre post : List Value} {P Q : List Int} {x : Int} (h : Reg w g pre post (P ++ x :: Q)) {off p : Nat} (ho : off = pre.length) (hp : p = P.length) : w.cell? ⟨g, off + p, none⟩ = some (.int .i32 x) := by
  subst ho hp
  have := h.at_ P.length (by simp)
  rw [Nc.get_at] at this
  exact this
theorem split_at {S : List Int} {t : Nat} (h : t < S.length) : ∃ y, S = S.take t ++ y :: S.drop (t + 1) ∧ S.drop t = y :: S.drop (t + 1) ∧ S.take (t + 1) = S.take t ++ [y] ∧ cls y = K S t :=
  ⟨S[t], by rw [← List.drop_eq_getElem_cons, List.take_append_drop], by rw [← List.drop_eq_getElem_cons], by rw [List.take_succ_eq_append_getElem], by unfold K; rw [List.getD_eq_getElem?_getD, List.getElem?_eq_getElem h]; rfl⟩
set_option maxRecDepth 100000 in
set_option maxHeartbeats 4000000 in
theorem MrgL (w : World) (hG : G w) (g : Nat) (hg : 3 ≤ g) (pre post : List Value) (A S C : List Int) (x : Int) (c : Nat) (hS : Srt S) (hS0 : 0 < S.length) (hR : Reg w g pre post (A ++ [x] ++ S ++ C)) (n : Nat) (hn : n = (A ++ [x] ++ S ++ C).length) (hn5 : n ≤ 1000000000000000) (off : Nat) (hoff : off = pre.length) (a m b : Nat) (ha : a = A.length) (hm : m = a + 1) (hb : b = m + S.length) :
    Calls Tryd.prog 97 #[.slice (some ⟨g, off, none⟩) n c, .int .i64 (a : Int), .int .i64 (m : Int), .int .i64 (b : Int), .func (.func 77) #[] #[]] w (InsPost w g pre post A ([x] ++ S) C) := by
  have HG := Aside0.mk hG
  have HR := Aside0.mk hR
  have HS := Aside0.mk hS
  have HF := Aside0.mk hoff
  have HA := Aside0.mk ha
  have HB := Aside0.mk hb
  have HM := Aside0.mk hm
  have hbn : b ≤ n := by rw [hb, hm, ha, hn]; simp <;> omega
  have hmb : m < b := by omega
  have ham : a < m := by omega
  have e1 : (m : Int) - (a : Int) = 1 := by omega
  clear hG hR hn hoff ha hb hm hS hS0
  go_enter Tryd.func97, Tryd.ntmps97
  go_wp2
  go_loopw [10, 11, 12] (fun iv jv hv wr => ∃ i j : Nat, iv = .int .i64 i ∧ jv = .int .i64 j ∧ m ≤ i ∧ i ≤ j ∧ j ≤ b ∧ Aside0 (∀ t, t < i - m → t < S.length → K S t < cls x) ∧ Aside0 (∀ t, j - m ≤ t → t < S.length → cls x ≤ K S t) ∧ Aside0 (Reg wr g pre post (A ++ [x] ++ S ++ C)) ∧ Aside0 (Chg (fun b => b = g) w wr)) (fun iv jv _ _ => (intOf jv).toNat - (intOf iv).toNat)
  case atStart => exact ⟨m, b, rfl, rfl, Nat.le_refl _, by omega, Nat.le_refl _, ⟨fun t h => by omega⟩, ⟨fun t h1 h2 => by have := HB.out; omega⟩, HR, ⟨Chg.refl _ _⟩⟩
  case round =>
    obtain ⟨i, j, rfl, rfl, hmi, hij, hjb, HL, HH, HRr, HC⟩ := hrel
    by_cases hlt : i < j
    · have hd : decide ((i : Int) < (j : Int)) = true := decide_eq_true (by omega)
      obtain ⟨h, hh⟩ : ∃ h, h = (i + j) / 2 := ⟨_, rfl⟩
      have hh1 : i ≤ h := by omega
      have hh2 : h < j := by omega
      have hu1 : IntKind.u64.wrap ((i : Int) + (j : Int)) = (i : Int) + (j : Int) := by rw [IntKind.wrap_u64]; omega
      have hu2 : ((i : Int) + (j : Int)) / 2 = (h : Int) := by omega
      have hu3 : IntKind.i64.wrap (h : Int) = (h : Int) := IntWalk.i64_in _ (by omega)
      obtain ⟨y, hy1, -, -, hy4⟩ := split_at (S := S) (t := h - m) (by have := HB.out; omega)
      have hr := HRr.out
      have c1 := hr
      rw [hy1, show A ++ [x] ++ (S.take (h - m) ++ y :: S.drop (h - m + 1)) ++ C = (A ++ [x] ++ S.take (h - m)) ++ y :: (S.drop (h - m + 1) ++ C) by simp] at c1
      have c1 := Reg.one c1 HF.out (p := h) (by have := HA.out; have := HM.out; have := HB.out; simp; omega)
      have c2 := hr
      rw [show A ++ [x] ++ S ++ C = A ++ x :: (S ++ C) by simp] at c2
      have c2 := Reg.one c2 HF.out (p := a) HA.out
      have HY := Aside0.mk hy4
      clear hr hy1 hy4 hh
      have l1 : ∀ p : Aft wr, p.w'.cell? ⟨g, off + h, none⟩ = some (.int .i32 y) := fun p => p.cell c1
      have l2 : ∀ p : Aft wr, p.w'.cell? ⟨g, off + a, none⟩ = some (.int .i32 x) := fun p => p.cell c2
      have HG2 := Aside0.mk (show ∀ p : Aft wr, G p.w' from fun p => (G_chg HG.out HC.out (fun k hk e => by omega)).below p.hb)
      have hj1 : (h : Int) < (n : Int) := by omega
      have hj2 : (a : Int) < (n : Int) := by omega
      clear c1 c2
      by_cases hyx : cls y < cls x
      · have hc : decide (cmpv (cls y) (cls x) < 0) = true := by rw [cmpv_neg]; exact decide_eq_true hyx
        go_wp2
        refine wp_region_aft (by kernel_rfl) (by kernel_rfl) ?_
        repeat (quiet_step (first | (go_at_call 77; exact aft_of (CmpP _ (HG2.out _) y x))))
        refine wpQuiet_nil ?_
        rintro w3 ⟨⟨_, hb3⟩, rfl⟩
        have HR4 := Aside0.mk (HRr.out.below hb3)
        have HC4 := Aside0.mk (HC.out.then_below hb3)
        clear l1 l2 hb3 HG2 HRr HC
        go_wp2
        go_roundw
        case rel => exact ⟨h + 1, j, by go_num, rfl, by omega, by omega, by omega, ⟨fun t h1 h2 => Int.lt_of_le_of_lt (srt_le HS.out (show t ≤ h - m by omega) (by have := HB.out; omega)) (HY.out ▸ hyx)⟩, HH, HR4, HC4⟩
        case measure => simp [intOf] <;> omega
      · have hc : decide (cmpv (cls y) (cls x) < 0) = false := by rw [cmpv_neg]; exact decide_eq_false hyx
        go_wp2
        refine wp_region_aft (by kernel_rfl) (by kernel_rfl) ?_
        repeat (quiet_step (first | (go_at_call 77; exact aft_of (CmpP _ (HG2.out _) y x))))
        refine wpQuiet_nil ?_
        rintro w3 ⟨⟨_, hb3⟩, rfl⟩
        have HR4 := Aside0.mk (HRr.out.below hb3)
        have HC4 := Aside0.mk (HC.out.then_below hb3)
        clear l1 l2 hb3 HG2 HRr HC
        go_wp2
        go_roundw
        case rel => exact ⟨i, h, rfl, rfl, by omega, by omega, by omega, HL, ⟨fun t h1 h2 => Int.le_trans (by rw [← HY.out]; omega) (srt_le HS.out h1 h2)⟩, HR4, HC4⟩
        case measure => simp [intOf] <;> omega
    · have hd : decide ((i : Int) < (j : Int)) = false := decide_eq_false (by omega)
      obtain rfl : i = j := by omega
      have HO := Aside0.mk (one_left (S := S) (x := x) HS.out (i - m) HL.out HH.out)
      have e2 : (i : Int) - 1 = ((i - 1 : Nat) : Int) := by omega
      clear HL HH
      go_wp2
      go_loopw [13] (fun kv wr => ∃ k : Nat, kv = .int .i64 k ∧ a ≤ k ∧ k ≤ i - 1 ∧ Aside0 (Reg wr g pre post (A ++ S.take (k - a) ++ [x] ++ S.drop (k - a) ++ C)) ∧ Aside0 (Chg (fun b => b = g) w wr)) (fun kv _ => i - 1 - (intOf kv).toNat)
      case atStart => exact ⟨a, rfl, Nat.le_refl _, by omega, ⟨by have := HRr.out; simpa using this⟩, HC⟩
      case round =>
        clear HRr HC
        obtain ⟨k, rfl, hak, hki, HRr, HC⟩ := hrel
        by_cases hlt : k < i - 1
        · have hd : decide ((k : Int) < ((i - 1 : Nat) : Int)) = true := decide_eq_true (by omega)
          have hd2 : decide (k < i - 1) = true := decide_eq_true hlt
          obtain ⟨y, -, hy2, hy3, -⟩ := split_at (S := S) (t := k - a) (by have := HB.out; have := HM.out; omega)
          have hr := HRr.out
          rw [hy2, show A ++ S.take (k - a) ++ [x] ++ (y :: S.drop (k - a + 1)) ++ C = (A ++ S.take (k - a)) ++ x :: ([] ++ y :: (S.drop (k - a + 1) ++ C)) by simp] at hr
          have hpl : k = (A ++ S.take (k - a)).length := by have := HA.out; have := HB.out; have := HM.out; simp; omega
          obtain ⟨c1, c2, hSw, -⟩ := hr.two HF.out hpl (q := k + 1) (by rw [← hpl]; rfl)
          have f1 := hr.free (off + k)
          have f2 := hr.free (off + (k + 1))
          obtain ⟨z, c3⟩ : ∃ z, (wr.setCell ⟨g, off + k, none⟩ (.int .i32 y)).cell? ⟨g, off + (k + 1), none⟩ = some z := cell?_setCell_some c2
          have hj1 : ((k : Int) + 1).toNat = k + 1 := by omega
          have hj2 : (0 : Int) ≤ (k : Int) + 1 := by omega
          have hj3 : (k : Int) + 1 < (n : Int) := by omega
          have hj4 : IntKind.i64.wrap ((k : Int) + 1) = (k : Int) + 1 := IntWalk.i64_in _ (by omega)
          have hj5 : (k : Int) < (n : Int) := by omega
          have hj6 : (0 : Int) ≤ (k : Int) := by omega
          have HSw := Aside0.mk hSw
          have HY := Aside0.mk hy3
          clear hSw hy2 hy3 hr hpl
          go_wp2
          go_big_region
          have HR5 := Aside0.mk (HSw.out.drew)
          have HC5 := Aside0.mk (((HC.out.setCell (p := ⟨g, off + k, none⟩) (.inl rfl) (.int .i32 y)).setCell (p := ⟨g, off + (k + 1), none⟩) (.inl rfl) (.int .i32 x)).drew)
          clear HSw HC c1 c2 c3 f1 f2 hj1 hj2 hj3 hj4 hj5 hj6
          generalize ((wr.setCell ⟨g, off + k, none⟩ (.int .i32 y)).setCell ⟨g, off + (k + 1), none⟩ (.int .i32 x)).drew = w4 at HR5 HC5 ⊢
          go_wp2
          go_roundw
          case rel => exact ⟨k + 1, by go_num, by omega, by omega, ⟨by rw [show k + 1 - a = k - a + 1 by omega, HY.out]; have := HR5.out; simpa using this⟩, HC5⟩
          case measure => simp [intOf] <;> omega
        · have hd : decide ((k : Int) < ((i - 1 : Nat) : Int)) = false := decide_eq_false (by omega)
          have hd2 : decide (k < i - 1) = false := decide_eq_false hlt
          have HK : Aside0 (k - a = i - m) := ⟨by have := HM.out; omega⟩
          go_wp2
          go_end0
          exact ⟨rfl, HC.out, S.take (i - m) ++ x :: S.drop (i - m), by have := HRr.out; rw [HK.out] at this; simpa using this, HO.out.1, HO.out.2⟩
set_option maxRecDepth 100000 in
set_option maxHeartbeats 4000000 in
theorem MrgR (w : World) (hG : G w) (g : Nat) (hg : 3 ≤ g) (pre post : List Value) (A S C : List Int) (y : Int) (c : Nat) (hS : Srt S) (hS0 : 1 < S.length) (hR : Reg w g pre post (A ++ S ++ [y] ++ C)) (n : Nat) (hn : n = (A ++ S ++ [y] ++ C).length) (hn5 : n ≤ 1000000000000000) (off : Nat) (hoff : off = pre.length) (a m b : Nat) (ha : a = A.length) (hm : m = a + S.length) (hb : b = m + 1) :
    Calls Tryd.prog 97 #[.slice (some ⟨g, off, none⟩) n c, .int .i64 (a : Int), .int .i64 (m : Int), .int .i64 (b : Int), .func (.func 77) #[] #[]] w (InsPost w g pre post A (S ++ [y]) C) := by
  have HG := Aside0.mk hG
  have HR := Aside0.mk hR
  have HS := Aside0.mk hS
  have HF := Aside0.mk hoff
  have HA := Aside0.mk ha
  have HB := Aside0.mk hb
  have HM := Aside0.mk hm
  have hbn : b ≤ n := by rw [hb, hm, ha, hn]; simp <;> omega
  have hmb : m < b := by omega
  have ham : a + 1 < m := by omega
  obtain ⟨q, hq⟩ : ∃ q : Nat, q = m - a := ⟨_, rfl⟩
  have hq1 : 1 < q := by omega
  have e1 : (m : Int) - (a : Int) = (q : Int) := by omega
  have e1b : ((q : Int) == 1) = false := by simp <;> omega
  have e2 : (b : Int) - (m : Int) = 1 := by omega
  clear hG hR hn hoff ha hb hm hS hS0 hq
  go_enter Tryd.func97, Tryd.ntmps97
  go_wp2
  go_loopw [14, 15, 16] (fun iv jv hv wr => ∃ i j : Nat, iv = .int .i64 i ∧ jv = .int .i64 j ∧ a ≤ i ∧ i ≤ j ∧ j ≤ m ∧ Aside0 (∀ t, t < i - a → t < S.length → K S t ≤ cls y) ∧ Aside0 (∀ t, j - a ≤ t → t < S.length → cls y < K S t) ∧ Aside0 (Reg wr g pre post (A ++ S ++ [y] ++ C)) ∧ Aside0 (Chg (fun b => b = g) w wr)) (fun iv jv _ _ => (intOf jv).toNat - (intOf iv).toNat)
  case atStart => exact ⟨a, m, rfl, rfl, Nat.le_refl _, by omega, Nat.le_refl _, ⟨fun t h => by omega⟩, ⟨fun t h1 h2 => by have := HM.out; omega⟩, HR, ⟨Chg.refl _ _⟩⟩
  case round =>
    obtain ⟨i, j, rfl, rfl, hmi, hij, hjb, HL, HH, HRr, HC⟩ := hrel
    by_cases hlt : i < j
    · have hd : decide ((i : Int) < (j : Int)) = true := decide_eq_true (by omega)
      obtain ⟨h, hh⟩ : ∃ h, h = (i + j) / 2 := ⟨_, rfl⟩
      have hh1 : i ≤ h := by omega
      have hh2 : h < j := by omega
      have hu1 : IntKind.u64.wrap ((i : Int) + (j : Int)) = (i : Int) + (j : Int) := by rw [IntKind.wrap_u64]; omega
      have hu2 : ((i : Int) + (j : Int)) / 2 = (h : Int) := by omega
      have hu3 : IntKind.i64.wrap (h : Int) = (h : Int) := IntWalk.i64_in _ (by omega)
      obtain ⟨x, hy1, -, -, hy4⟩ := split_at (S := S) (t := h - a) (by have := HM.out; omega)
      have hr := HRr.out
      have c1 := hr
      rw [hy1, show A ++ (S.take (h - a) ++ x :: S.drop (h - a + 1)) ++ [y] ++ C = (A ++ S.take (h - a)) ++ x :: (S.drop (h - a + 1) ++ [y] ++ C) by simp] at c1
      have c1 := Reg.one c1 HF.out (p := h) (by have := HA.out; have := HM.out; have := HB.out; simp; omega)
      have c2 := hr
      rw [show A ++ S ++ [y] ++ C = (A ++ S) ++ y :: C by simp] at c2
      have c2 := Reg.one c2 HF.out (p := m) (by have := HA.out; have := HM.out; simp; omega)
      have HY := Aside0.mk hy4
      clear hr hy1 hy4 hh
      have l1 : ∀ p : Aft wr, p.w'.cell? ⟨g, off + h, none⟩ = some (.int .i32 x) := fun p => p.cell c1
      have l2 : ∀ p : Aft wr, p.w'.cell? ⟨g, off + m, none⟩ = some (.int .i32 y) := fun p => p.cell c2
      have HG2 := Aside0.mk (show ∀ p : Aft wr, G p.w' from fun p => (G_chg HG.out HC.out (fun k hk e => by omega)).below p.hb)
      have hj1 : (h : Int) < (n : Int) := by omega
      have hj2 : (m : Int) < (n : Int) := by omega
      clear c1 c2
      by_cases hyx : cls y < cls x
      · have hc : decide (cmpv (cls y) (cls x) < 0) = true := by rw [cmpv_neg]; exact decide_eq_true hyx
        go_wp2
        refine wp_region_aft (by kernel_rfl) (by kernel_rfl) ?_
        repeat (quiet_step (first | (go_at_call 77; exact aft_of (CmpP _ (HG2.out _) y x))))
        refine wpQuiet_nil ?_
        rintro w3 ⟨⟨_, hb3⟩, rfl⟩
        have HR4 := Aside0.mk (HRr.out.below hb3)
        have HC4 := Aside0.mk (HC.out.then_below hb3)
        clear l1 l2 hb3 HG2 HRr HC
        go_wp2
        go_roundw
        case rel => exact ⟨i, h, rfl, rfl, by omega, by omega, by omega, HL, ⟨fun t h1 h2 => Int.lt_of_lt_of_le (HY.out ▸ hyx) (srt_le HS.out h1 h2)⟩, HR4, HC4⟩
        case measure => simp [intOf] <;> omega
      · have hc : decide (cmpv (cls y) (cls x) < 0) = false := by rw [cmpv_neg]; exact decide_eq_false hyx
        go_wp2
        refine wp_region_aft (by kernel_rfl) (by kernel_rfl) ?_
        repeat (quiet_step (first | (go_at_call 77; exact aft_of (CmpP _ (HG2.out _) y x))))
        refine wpQuiet_nil ?_
        rintro w3 ⟨⟨_, hb3⟩, rfl⟩
        have HR4 := Aside0.mk (HRr.out.below hb3)
        have HC4 := Aside0.mk (HC.out.then_below hb3)
        clear l1 l2 hb3 HG2 HRr HC
        go_wp2
        go_roundw
        case rel => exact ⟨h + 1, j, by go_num, rfl, by omega, by omega, by omega, ⟨fun t h1 h2 => Int.le_trans (srt_le HS.out (show t ≤ h - a by omega) (by have := HM.out; omega)) (by rw [← HY.out]; omega)⟩, HH, HR4, HC4⟩
        case measure => simp [intOf] <;> omega
    · have hd : decide ((i : Int) < (j : Int)) = false := decide_eq_false (by omega)
      obtain rfl : i = j := by omega
      have HO := Aside0.mk (one_right (S := S) (y := y) HS.out (i - a) HL.out HH.out)
      clear HL HH
      go_wp2
      go_loopw [17] (fun kv wr => ∃ k : Nat, kv = .int .i64 k ∧ i ≤ k ∧ k ≤ m ∧ Aside0 (Reg wr g pre post (A ++ S.take (k - a) ++ [y] ++ S.drop (k - a) ++ C)) ∧ Aside0 (Chg (fun b => b = g) w wr)) (fun kv _ => (intOf kv).toNat)
      case atStart => exact ⟨m, rfl, hjb, Nat.le_refl _, ⟨by have h1 := HM.out; have := HRr.out; rw [List.take_of_length_le (by omega), List.drop_of_length_le (by omega)]; simpa using this⟩, HC⟩
      case round =>
        clear HRr HC
        obtain ⟨k, rfl, hik, hkm, HRr, HC⟩ := hrel
        by_cases hlt : i < k
        · have hd : decide ((i : Int) < (k : Int)) = true := decide_eq_true (by omega)
          have hd2 : decide (i < k) = true := decide_eq_true hlt
          obtain ⟨kp, rfl⟩ : ∃ q, k = q + 1 := ⟨k - 1, by omega⟩
          have hd3 : decide ((i : Int) < (kp : Int) + 1) = true := decide_eq_true (by omega)
          obtain ⟨x, -, hy2, hy3, -⟩ := split_at (S := S) (t := kp - a) (by have := HM.out; omega)
          have hr := HRr.out
          rw [show kp + 1 - a = kp - a + 1 by omega, hy3, show A ++ (S.take (kp - a) ++ [x]) ++ [y] ++ S.drop (kp - a + 1) ++ C = (A ++ S.take (kp - a)) ++ x :: ([] ++ y :: (S.drop (kp - a + 1) ++ C)) by simp] at hr
          have hpl : kp = (A ++ S.take (kp - a)).length := by have := HA.out; have := HB.out; have := HM.out; simp; omega
          obtain ⟨c1, c2, -, hSw⟩ := hr.two HF.out hpl (q := kp + 1) (by rw [← hpl]; rfl)
          have f1 := hr.free (off + kp)
          have f2 := hr.free (off + (kp + 1))
          obtain ⟨z, c3⟩ : ∃ z, (wr.setCell ⟨g, off + (kp + 1), none⟩ (.int .i32 x)).cell? ⟨g, off + kp, none⟩ = some z := cell?_setCell_some c1
          have hj1 : ((kp : Int) + 1).toNat = kp + 1 := by omega
          have hj2 : (0 : Int) ≤ (kp : Int) + 1 := by omega
          have hj3 : (kp : Int) + 1 < (n : Int) := by omega
          have hj4 : IntKind.i64.wrap (kp : Int) = (kp : Int) := IntWalk.i64_in _ (by omega)
          have hj5 : (kp : Int) < (n : Int) := by omega
          have hj6 : (0 : Int) ≤ (kp : Int) := by omega
          have HSw := Aside0.mk hSw
          have HY := Aside0.mk hy2
          clear hSw hy2 hy3 hr hpl
          go_wp2
          go_big_region
          have HR5 := Aside0.mk (HSw.out.drew)
          have HC5 := Aside0.mk (((HC.out.setCell (p := ⟨g, off + (kp + 1), none⟩) (.inl rfl) (.int .i32 x)).setCell (p := ⟨g, off + kp, none⟩) (.inl rfl) (.int .i32 y)).drew)
          clear HSw HC c1 c2 c3 f1 f2 hj1 hj2 hj3 hj4 hj5 hj6
          generalize ((wr.setCell ⟨g, off + (kp + 1), none⟩ (.int .i32 x)).setCell ⟨g, off + kp, none⟩ (.int .i32 y)).drew = w4 at HR5 HC5 ⊢
          go_wp2
          go_roundw
          case rel => exact ⟨kp, by go_num, by omega, by omega, ⟨by rw [HY.out]; have := HR5.out; simpa using this⟩, HC5⟩
          case measure => simp [intOf] <;> omega
        · have hd : decide ((i : Int) < (k : Int)) = false := decide_eq_false (by omega)
          have hd2 : decide (i < k) = false := decide_eq_false hlt
          obtain rfl : i = k := by omega
          go_wp2
          go_end0
          exact ⟨rfl, HC.out, S.take (i - a) ++ y :: S.drop (i - a), by have := HRr.out; simpa using this, HO.out.1, HO.out.2⟩
end Go.Proofs.YtiggjbclbdikmaaDoor.Ns
namespace Go.Proofs.YtiggjbclbdikmaaDoor.Nt
set_option linter.unusedVariables false
set_option linter.unusedSimpArgs false
set_option linter.unusedVariables false
set_option linter.unusedSimpArgs false
open Go.RowKit Go.Proofs.YtiggjbclbdikmaaDoorW.PrintWords Go.Proofs.YtiggjbclbdikmaaDoor.Hp Go.Proofs.YtiggjbclbdikmaaDoor.Va Go.Proofs.YtiggjbclbdikmaaDoor.Na Go.Proofs.YtiggjbclbdikmaaDoor.Nb Go.Proofs.YtiggjbclbdikmaaDoor.Nc Go.Proofs.YtiggjbclbdikmaaDoor.Nd Go.Proofs.YtiggjbclbdikmaaDoor.Nr Go.Proofs.YtiggjbclbdikmaaDoor.Ns
def Merges (off n c g : Nat) (pre post : List Value) (L : Nat) : Prop :=
  ∀ (w : World) (A S T C : List Int) (a m b : Nat), G w → Srt S → Srt T → 0 < S.length → 0 < T.length → S.length + T.length ≤ L → Reg w g pre post (A ++ S ++ T ++ C) → n = (A ++ S ++ T ++ C).length → a = A.length → m = a + S.length → b = m + T.length →
    Calls Tryd.prog 97 #[.slice (some ⟨g, off, none⟩) n c, .int .i64 (a : Int), .int .i64 (m : Int), .int .i64 (b : Int), .func (.func 77) #[] #[]] w (InsPost w g pre post A (S ++ T) C)
set_option maxRecDepth 100000 in
set_option maxHeartbeats 8000000 in
theorem MrgG (g : Nat) (hg : 3 ≤ g) (pre post : List Value) (n c off L : Nat) (hn5 : n ≤ 1000000000000000) (hoff : off = pre.length) (ih : Merges off n c g pre post L)
    (w : World) (hG : G w) (A S T C : List Int) (hS : Srt S) (hT : Srt T) (hS0 : 1 < S.length) (hT0 : 1 < T.length) (hL : S.length + T.length ≤ L + 1) (hR : Reg w g pre post (A ++ S ++ T ++ C)) (hn : n = (A ++ S ++ T ++ C).length) (a m b : Nat) (ha : a = A.length) (hm : m = a + S.length) (hb : b = m + T.length) (mid : Nat) (hmid : mid = (a + b) / 2)
    (lo hi : Nat) (hlh : (mid < m ∧ lo = mid + m - b ∧ hi = mid) ∨ (m ≤ mid ∧ lo = a ∧ hi = m)) :
    Calls Tryd.prog 97 #[.slice (some ⟨g, off, none⟩) n c, .int .i64 (a : Int), .int .i64 (m : Int), .int .i64 (b : Int), .func (.func 77) #[] #[]] w (InsPost w g pre post A (S ++ T) C) := by
  have HG := Aside0.mk hG
  have HR := Aside0.mk hR
  have HS := Aside0.mk hS
  have HT := Aside0.mk hT
  have HF := Aside0.mk hoff
  have HA := Aside0.mk ha
  have HB := Aside0.mk hb
  have HM := Aside0.mk hm
  have HN := Aside0.mk hn
  have HL := Aside0.mk hL
  have HIH := Aside0.mk ih
  have HLH := Aside0.mk hlh
  have hbn : b ≤ n := by rw [hb, hm, ha, hn]; simp <;> omega
  have hmb : m + 1 < b := by omega
  have ham : a + 1 < m := by omega
  have hamid : a < mid := by omega
  have hmidb : mid < b := by omega
  have hlo1 : a ≤ lo := by omega
  have hlo2 : mid + m - b ≤ lo := by omega
  have hlo3 : lo ≤ hi := by omega
  have hhi1 : hi ≤ m := by omega
  have hhi2 : hi ≤ mid := by omega
  obtain ⟨q, hq⟩ : ∃ q : Nat, q = m - a := ⟨_, rfl⟩
  obtain ⟨q2, hq2⟩ : ∃ q : Nat, q = b - m := ⟨_, rfl⟩
  obtain ⟨N, hN⟩ : ∃ N : Nat, N = mid + m := ⟨_, rfl⟩
  have e1 : (m : Int) - (a : Int) = (q : Int) := by omega
  have e1b : ((q : Int) == 1) = false := by simp <;> omega
  have e2 : (b : Int) - (m : Int) = (q2 : Int) := by omega
  have e2b : ((q2 : Int) == 1) = false := by simp <;> omega
  have e3 : IntKind.u64.wrap ((a : Int) + (b : Int)) = (a : Int) + (b : Int) := by rw [IntKind.wrap_u64]; omega
  have e4 : ((a : Int) + (b : Int)) / 2 = (mid : Int) := by omega
  have e5 : (mid : Int) + (m : Int) = (N : Int) := by omega
  have e6 : (N : Int) - 1 = ((N - 1 : Nat) : Int) := by omega
  have HNN := Aside0.mk hN
  clear hG hR hn hoff ha hb hm hS hS0 hT hT0 hq hq2 hL hlh hmid hN ih
  go_enter Tryd.func97, Tryd.ntmps97
  go_upto_if 140 with (fail)
  go_cut [20, 21] (fun sv rv wc => sv = .int .i64 lo ∧ rv = .int .i64 hi ∧ wc = w)
  case first =>
    as_aux_lemma =>
    rcases HLH.out with ⟨h1, h2, h3⟩ | ⟨h1, h2, h3⟩
    · have h3 := h3.symm
      subst h3
      have hd0 : decide ((mid : Int) < (m : Int)) = true := decide_eq_true (by omega)
      have hd0b : decide (mid < m) = true := decide_eq_true h1
      have e7 : (N : Int) - (b : Int) = (lo : Int) := by have := HNN.out; omega
      clear HLH h2
      go_wp2
      go_meet
      case rel => exact ⟨rfl, rfl, rfl⟩
    · have h2 := h2.symm
      have h3 := h3.symm
      subst h2 h3
      have hd0 : decide ((mid : Int) < (m : Int)) = false := decide_eq_false (by omega)
      have hd0b : decide (mid < m) = false := decide_eq_false (by omega)
      clear HLH
      go_wp2
      go_meet
      case rel => exact ⟨rfl, rfl, rfl⟩
  case rest =>
    as_aux_lemma =>
    obtain ⟨h20, h21, hw⟩ := hcut
    have hw := hw.symm
    subst h20 h21 hw
    go_wp2
    go_loopw [20, 21, 23] (fun sv rv cv wr => ∃ s r : Nat, sv = .int .i64 s ∧ rv = .int .i64 r ∧ lo ≤ s ∧ s ≤ r ∧ r ≤ hi ∧ Aside0 (∀ t, lo ≤ t → t < s → K S (t - a) ≤ K T (mid - 1 - t)) ∧ Aside0 (∀ t, r ≤ t → t < hi → K T (mid - 1 - t) < K S (t - a)) ∧ Aside0 (Reg wr g pre post (A ++ S ++ T ++ C)) ∧ Aside0 (Chg (fun b => b = g) w wr)) (fun sv rv _ _ => (intOf rv).toNat - (intOf sv).toNat)
    case atStart => exact ⟨lo, hi, rfl, rfl, Nat.le_refl _, hlo3, Nat.le_refl _, ⟨fun t h1 h2 => by omega⟩, ⟨fun t h1 h2 => by omega⟩, HR, ⟨Chg.refl _ _⟩⟩
    case round =>
      obtain ⟨s, r, rfl, rfl, hs1, hsr, hr2, HLo, HHi, HRr, HC⟩ := hrel
      by_cases hlt : s < r
      · have hd : decide ((s : Int) < (r : Int)) = true := decide_eq_true (by omega)
        obtain ⟨h, hh⟩ : ∃ h, h = (s + r) / 2 := ⟨_, rfl⟩
        have hh1 : s ≤ h := by omega
        have hh2 : h < r := by omega
        have hu1 : IntKind.u64.wrap ((s : Int) + (r : Int)) = (s : Int) + (r : Int) := by rw [IntKind.wrap_u64]; omega
        have hu2 : ((s : Int) + (r : Int)) / 2 = (h : Int) := by omega
        have hu3 : IntKind.i64.wrap (h : Int) = (h : Int) := IntWalk.i64_in _ (by omega)
        obtain ⟨d, hd5⟩ : ∃ d, d = N - 1 - h := ⟨_, rfl⟩
        have hsub : ((N - 1 : Nat) : Int) - (h : Int) = (d : Int) := by have := HNN.out; omega
        have hsub2 : IntKind.i64.wrap (d : Int) = (d : Int) := IntWalk.i64_in _ (by have := HNN.out; omega)
        obtain ⟨x, hx1, -, -, hx4⟩ := split_at (S := S) (t := h - a) (by have := HM.out; omega)
        obtain ⟨y, hy1, -, -, hy4⟩ := split_at (S := T) (t := mid - 1 - h) (by have := HB.out; have := HNN.out; omega)
        have c1 := HRr.out
        rw [hx1, show A ++ (S.take (h - a) ++ x :: S.drop (h - a + 1)) ++ T ++ C = (A ++ S.take (h - a)) ++ x :: (S.drop (h - a + 1) ++ T ++ C) by simp] at c1
        have c1 := Reg.one c1 HF.out (p := h) (by have := HA.out; have := HM.out; simp; omega)
        have c2 := HRr.out
        rw [hy1, show A ++ S ++ (T.take (mid - 1 - h) ++ y :: T.drop (mid - 1 - h + 1)) ++ C = (A ++ S ++ T.take (mid - 1 - h)) ++ y :: (T.drop (mid - 1 - h + 1) ++ C) by simp] at c2
        have c2 := Reg.one c2 HF.out (p := d) (by have := HA.out; have := HM.out; have := HB.out; have := HNN.out; simp; omega)
        have HX := Aside0.mk hx4
        have HY := Aside0.mk hy4
        have hj1 : (h : Int) < (n : Int) := by omega
        have hj2 : (d : Int) < (n : Int) := by have := HNN.out; omega
        have HT1 : Aside0 (∀ t, t ≤ h → lo ≤ t → K S (t - a) ≤ K S (h - a) ∧ K T (mid - 1 - h) ≤ K T (mid - 1 - t)) := ⟨fun t h1 h2 => ⟨srt_le HS.out (by omega) (by have := HM.out; omega), srt_le HT.out (by omega) (by have := HB.out; have := HNN.out; omega)⟩⟩
        have HT2 : Aside0 (∀ t, h ≤ t → t < hi → K S (h - a) ≤ K S (t - a) ∧ K T (mid - 1 - t) ≤ K T (mid - 1 - h)) := ⟨fun t h1 h2 => ⟨srt_le HS.out (by omega) (by have := HM.out; omega), srt_le HT.out (by omega) (by have := HB.out; have := HNN.out; omega)⟩⟩
        clear hx1 hx4 hy1 hy4 hh hd5
        have l1 : ∀ p : Aft wr, p.w'.cell? ⟨g, off + h, none⟩ = some (.int .i32 x) := fun p => p.cell c1
        have l2 : ∀ p : Aft wr, p.w'.cell? ⟨g, off + d, none⟩ = some (.int .i32 y) := fun p => p.cell c2
        have HG2 := Aside0.mk (show ∀ p : Aft wr, G p.w' from fun p => (G_chg HG.out HC.out (fun k hk e => by omega)).below p.hb)
        clear c1 c2
        by_cases hyx : cls y < cls x
        · have hc : decide (cmpv (cls y) (cls x) < 0) = true := by rw [cmpv_neg]; exact decide_eq_true hyx
          go_wp2
          refine wp_region_aft (by kernel_rfl) (by kernel_rfl) ?_
          repeat (quiet_step (first | (go_at_call 77; exact aft_of (CmpP _ (HG2.out _) y x))))
          refine wpQuiet_nil ?_
          rintro w3 ⟨⟨_, hb3⟩, rfl⟩
          have HR4 := Aside0.mk (HRr.out.below hb3)
          have HC4 := Aside0.mk (HC.out.then_below hb3)
          clear l1 l2 hb3 HG2 HRr HC
          go_wp2
          go_roundw
          case rel => exact ⟨s, h, rfl, rfl, by omega, by omega, by omega, HLo, ⟨fun t h1 h2 => by have := HT2.out t h1 h2; have := HX.out; have := HY.out; omega⟩, HR4, HC4⟩
          case measure => simp [intOf] <;> omega
        · have hc : decide (cmpv (cls y) (cls x) < 0) = false := by rw [cmpv_neg]; exact decide_eq_false hyx
          go_wp2
          refine wp_region_aft (by kernel_rfl) (by kernel_rfl) ?_
          repeat (quiet_step (first | (go_at_call 77; exact aft_of (CmpP _ (HG2.out _) y x))))
          refine wpQuiet_nil ?_
          rintro w3 ⟨⟨_, hb3⟩, rfl⟩
          have HR4 := Aside0.mk (HRr.out.below hb3)
          have HC4 := Aside0.mk (HC.out.then_below hb3)
          clear l1 l2 hb3 HG2 HRr HC
          go_wp2
          go_roundw
          case rel => exact ⟨h + 1, r, by go_num, rfl, by omega, by omega, by omega, ⟨fun t h1 h2 => by have := HT1.out t (by omega) (by omega); have := HX.out; have := HY.out; omega⟩, HHi, HR4, HC4⟩
          case measure => simp [intOf] <;> omega
      · have hd : decide ((s : Int) < (r : Int)) = false := decide_eq_false (by omega)
        obtain rfl : s = r := by omega
        have e8 : (N : Int) - (s : Int) = ((N - s : Nat) : Int) := by have := HNN.out; omega
        obtain ⟨E, hE⟩ : ∃ E, E = N - s := ⟨_, rfl⟩
        rw [← hE] at e8
        have HE := Aside0.mk hE
        have HP := Aside0.mk (parted (S1 := S) (S2 := T) (s := s - a) (e := mid - s) HS.out HT.out (by have := HM.out; omega) (by have := HB.out; have := HNN.out; omega) (fun h1 h2 => by
          have := HLo.out (s - 1) (by have := HB.out; have := HNN.out; have := HLH.out; omega) (by omega)
          rw [show s - 1 - a = s - a - 1 by omega, show mid - 1 - (s - 1) = mid - s by omega] at this
          exact this) (fun h1 h2 => by
          have := HHi.out s (Nat.le_refl _) (by have := HM.out; have := HLH.out; omega)
          rw [show mid - 1 - s = mid - s - 1 by omega] at this
          exact this))
        clear HLo HHi hE
        go_upto_region 39 with (fail)
        obtain ⟨P, hP⟩ : ∃ P, P = S.take (s - a) := ⟨_, rfl⟩
        obtain ⟨U, hU⟩ : ∃ U, U = S.drop (s - a) := ⟨_, rfl⟩
        obtain ⟨V, hV⟩ : ∃ V, V = T.take (mid - s) := ⟨_, rfl⟩
        obtain ⟨Q, hQ⟩ : ∃ Q, Q = T.drop (mid - s) := ⟨_, rfl⟩
        have hSe : P ++ U = S := by rw [hP, hU, List.take_append_drop]
        have hTe : V ++ Q = T := by rw [hV, hQ, List.take_append_drop]
        have HPl := Aside0.mk (show P.length = s - a by have := HM.out; rw [hP, List.length_take]; omega)
        have HUl := Aside0.mk (show U.length = m - s by have := HM.out; rw [hU, List.length_drop]; omega)
        have HVl := Aside0.mk (show V.length = mid - s by have := HB.out; have := HNN.out; rw [hV, List.length_take]; omega)
        have HQl := Aside0.mk (show Q.length = b - E by have := HB.out; have := HNN.out; have := HE.out; rw [hQ, List.length_drop]; omega)
        have HPU := Aside0.mk (show Srt (P ++ U) by rw [hSe]; exact HS.out)
        have HVQ := Aside0.mk (show Srt (V ++ Q) by rw [hTe]; exact HT.out)
        have HST := Aside0.mk (show S ++ T = P ++ U ++ (V ++ Q) by rw [hSe, hTe])
        have HNl := Aside0.mk (show n = A.length + P.length + U.length + V.length + Q.length + C.length by rw [HN.out, ← hSe, ← hTe]; simp only [List.length_append]; omega)
        rw [← hP, ← hU, ← hV, ← hQ] at HP
        rw [← hSe, ← hTe] at HRr
        clear hP hU hV hQ hSe hTe
        go_cut [185] (fun tv wc => ∃ cc : Bool, tv = .bool cc ∧ (cc = true ↔ 0 < U.length ∧ 0 < V.length) ∧ wc = wr)
        case first =>
          as_aux_lemma =>
          by_cases hu : s < m
          · have t1 : decide ((s : Int) < (m : Int)) = true := decide_eq_true (by omega)
            have t1b : decide (s < m) = true := decide_eq_true hu
            by_cases hv : m < E
            · have t2 : decide ((m : Int) < (E : Int)) = true := decide_eq_true (by omega)
              have t2b : decide (m < E) = true := decide_eq_true hv
              go_wp2
              go_meet
              case rel => exact ⟨true, rfl, ⟨fun _ => ⟨by have := HUl.out; have := HVl.out; have := HE.out; have := HNN.out; omega, by have := HUl.out; have := HVl.out; have := HE.out; have := HNN.out; omega⟩, fun _ => rfl⟩, rfl⟩
            · have t2 : decide ((m : Int) < (E : Int)) = false := decide_eq_false (by omega)
              have t2b : decide (m < E) = false := decide_eq_false hv
              go_wp2
              go_meet
              case rel => exact ⟨false, rfl, ⟨fun h => (by cases h), fun h => by have := HUl.out; have := HVl.out; have := HE.out; have := HNN.out; have := h.1; have := h.2; omega⟩, rfl⟩
          · have t1 : decide ((s : Int) < (m : Int)) = false := decide_eq_false (by omega)
            have t1b : decide (s < m) = false := decide_eq_false hu
            go_wp2
            go_meet
            case rel => exact ⟨false, rfl, ⟨fun h => (by cases h), fun h => by have := HUl.out; have := HVl.out; have := HE.out; have := HNN.out; have := h.1; have := h.2; omega⟩, rfl⟩
        case rest =>
          as_aux_lemma =>
          obtain ⟨cc, h1, hcc, hw⟩ := hcut
          subst h1 hw
          have HCC := Aside0.mk hcc
          clear hcc
          go_upto_if 185 with (fail)
          go_cut [] (fun wc => Aside0 (Reg wc g pre post (A ++ (P ++ V) ++ (U ++ Q) ++ C)) ∧ Aside0 (Chg (fun b => b = g) w wc))
          case first =>
            as_aux_lemma =>
            cases cc
            · have ha1 : ¬ (0 < U.length ∧ 0 < V.length) := fun h => by cases HCC.out.2 h
              go_wp2
              go_meet
              case rel =>
                refine ⟨⟨?_⟩, HC⟩
                have := HRr.out
                rcases List.eq_nil_or_concat U with h | ⟨_, _, h⟩
                · rw [h] at this ⊢; simp only [List.append_assoc, List.nil_append] at this ⊢; exact this
                · rcases List.eq_nil_or_concat V with h2 | ⟨_, _, h2⟩
                  · rw [h2] at this ⊢; simp only [List.append_assoc, List.nil_append] at this ⊢; exact this
                  · exact absurd ⟨by rw [h]; simp, by rw [h2]; simp⟩ ha1
            · have ha1 : 0 < U.length ∧ 0 < V.length := HCC.out.1 rfl
              have HCall := Aside0.mk (RotP _ g pre post (A ++ P) U V (Q ++ C) c (by have := HRr.out; simp only [List.append_assoc] at this ⊢; exact this) ha1.1 ha1.2 n (by rw [HNl.out]; simp only [List.length_append]; omega) hn5 off HF.out s m E (by have := HA.out; have := HPl.out; simp only [List.length_append]; omega) (by have := HA.out; have := HPl.out; have := HUl.out; simp only [List.length_append]; omega) (by have := HA.out; have := HPl.out; have := HUl.out; have := HVl.out; have := HNN.out; have := HE.out; simp only [List.length_append]; omega))
              go_wp2_with (first | (go_at_call 98; go_must (refine HCall.out.mono ?_; rintro e w2 ⟨rfl, p1, p2⟩; have HC1 := Aside0.mk (HC.out.trans p1 (fun _ _ h => h)); have HR1 := Aside0.mk (show Reg w2 g pre post (A ++ (P ++ V) ++ (U ++ Q) ++ C) by simp only [List.append_assoc] at p2 ⊢; exact p2); clear p1 p2 HC HRr)))
              go_meet
              case rel => exact ⟨HR1, HC1⟩
          case rest =>
            as_aux_lemma =>
            obtain ⟨HR1, HC1⟩ := hcut
            clear HRr HC HCC
            go_upto_region 41 with (fail)
            go_cut [199] (fun tv wd => ∃ cc : Bool, tv = .bool cc ∧ (cc = true ↔ 0 < P.length ∧ 0 < V.length) ∧ wd = wc)
            case first =>
              as_aux_lemma =>
              by_cases hu : a < s
              · have t1 : decide ((a : Int) < (s : Int)) = true := decide_eq_true (by omega)
                have t1b : decide (a < s) = true := decide_eq_true hu
                by_cases hv : s < mid
                · have t2 : decide ((s : Int) < (mid : Int)) = true := decide_eq_true (by omega)
                  have t2b : decide (s < mid) = true := decide_eq_true hv
                  go_wp2
                  go_meet
                  case rel => exact ⟨true, rfl, ⟨fun _ => ⟨by have := HPl.out; have := HVl.out; omega, by have := HPl.out; have := HVl.out; omega⟩, fun _ => rfl⟩, rfl⟩
                · have t2 : decide ((s : Int) < (mid : Int)) = false := decide_eq_false (by omega)
                  have t2b : decide (s < mid) = false := decide_eq_false hv
                  go_wp2
                  go_meet
                  case rel => exact ⟨false, rfl, ⟨fun h => (by cases h), fun h => by have := HPl.out; have := HVl.out; have := h.1; have := h.2; omega⟩, rfl⟩
              · have t1 : decide ((a : Int) < (s : Int)) = false := decide_eq_false (by omega)
                have t1b : decide (a < s) = false := decide_eq_false hu
                go_wp2
                go_meet
                case rel => exact ⟨false, rfl, ⟨fun h => (by cases h), fun h => by have := HPl.out; have := HVl.out; have := h.1; have := h.2; omega⟩, rfl⟩
            case rest =>
              as_aux_lemma =>
              obtain ⟨cc, h1, hcc, hw⟩ := hcut
              subst h1 hw
              have HCC := Aside0.mk hcc
              clear hcc
              go_upto_if 199 with (fail)
              go_cut [] (fun wd => ∃ X, Aside0 (Srt X ∧ Sw (P ++ V) X) ∧ Aside0 (X.length = P.length + V.length) ∧ Aside0 (Reg wd g pre post (A ++ X ++ (U ++ Q) ++ C)) ∧ Aside0 (Chg (fun b => b = g) w wd))
              case first =>
                as_aux_lemma =>
                cases cc
                · have hp0 : ¬ (0 < P.length ∧ 0 < V.length) := fun h => by cases HCC.out.2 h
                  obtain ⟨X, hXe⟩ : ∃ X, X = P ++ V := ⟨_, rfl⟩
                  have HX := Aside0.mk (show Srt X ∧ Sw (P ++ V) X by
                    rw [hXe]
                    refine ⟨?_, Sw.refl _⟩
                    rcases List.eq_nil_or_concat P with h | ⟨_, _, h⟩
                    · rw [h]; exact srt_left HVQ.out
                    · rcases List.eq_nil_or_concat V with h2 | ⟨_, _, h2⟩
                      · rw [h2, List.append_nil]; exact srt_left HPU.out
                      · exact absurd ⟨by rw [h]; simp, by rw [h2]; simp⟩ hp0)
                  have HXl := Aside0.mk (show X.length = P.length + V.length by rw [hXe]; simp)
                  rw [← hXe] at HR1
                  clear hXe
                  go_wp2
                  go_meet
                  case rel => exact ⟨X, HX, HXl, HR1, HC1⟩
                · have hp0 : 0 < P.length ∧ 0 < V.length := HCC.out.1 rfl
                  have HCall2 := Aside0.mk (HIH.out _ A P V (U ++ Q ++ C) a s mid (G_chg HG.out HC1.out (fun k hk e => by omega)) (srt_left HPU.out) (srt_left HVQ.out) hp0.1 hp0.2 (by have := HL.out; have := HPl.out; have := HVl.out; have := HB.out; have := HM.out; omega) (by have := HR1.out; simp only [List.append_assoc] at this ⊢; exact this) (by have := HNl.out; have := HPl.out; have := HUl.out; have := HVl.out; have := HQl.out; simp only [List.length_append]; omega) HA.out (by have := HPl.out; omega) (by have := HVl.out; omega))
                  go_wp2_with (first | (go_at_call 97; go_must (refine HCall2.out.mono ?_; rintro e w4 ⟨rfl, p1, X, p2, p3, p4⟩; have HC3 := Aside0.mk (HC1.out.trans p1 (fun _ _ h => h)); have HR3 := Aside0.mk (show Reg w4 g pre post (A ++ X ++ (U ++ Q) ++ C) by simp only [List.append_assoc] at p2 ⊢; exact p2); have HXl := Aside0.mk (show X.length = P.length + V.length by rw [← p4.length]; simp); have HX := Aside0.mk (And.intro p3 p4); clear p1 p2 p3 p4 HR1 HC1)))
                  go_meet
                  case rel => exact ⟨X, HX, HXl, HR3, HC3⟩
              case rest =>
                as_aux_lemma =>
                obtain ⟨X, HX, HXl, HR3, HC3⟩ := hcut
                clear HR1 HC1 HCC
                go_upto_region 43 with (fail)
                by_cases hu0 : 0 < U.length ∧ 0 < Q.length
                · have t5 : decide ((mid : Int) < (E : Int)) = true := decide_eq_true (by have := HNN.out; have := HE.out; have := HUl.out; omega)
                  have t5b : decide (mid < E) = true := decide_eq_true (by have := HNN.out; have := HE.out; have := HUl.out; omega)
                  have t6 : decide ((E : Int) < (b : Int)) = true := decide_eq_true (by have := HNN.out; have := HE.out; have := HQl.out; have := HB.out; omega)
                  have t6b : decide (E < b) = true := decide_eq_true (by have := HNN.out; have := HE.out; have := HQl.out; have := HB.out; omega)
                  have HCall3 := Aside0.mk (HIH.out _ (A ++ X) U Q C mid E b (G_chg HG.out HC3.out (fun k hk e => by omega)) (srt_right HPU.out) (srt_right HVQ.out) hu0.1 hu0.2 (by have := HL.out; have := HUl.out; have := HQl.out; have := HB.out; have := HM.out; omega) (by have := HR3.out; simp only [List.append_assoc] at this ⊢; exact this) (by have := HNl.out; have := HXl.out; have := HPl.out; have := HUl.out; have := HVl.out; have := HQl.out; simp only [List.length_append]; omega) (by have := HXl.out; have := HPl.out; have := HVl.out; have := HA.out; simp only [List.length_append]; omega) (by have := HNN.out; have := HE.out; have := HUl.out; omega) (by have := HNN.out; have := HE.out; have := HQl.out; have := HB.out; omega))
                  go_wp2_with (first | (go_at_call 97; go_must (refine HCall3.out.mono ?_; rintro e w5 ⟨rfl, p1, Y, p2, p3, p4⟩; have C5 := Aside0.mk (HC3.out.trans p1 (fun _ _ h => h)); have R5 := Aside0.mk p2; have Y5 := Aside0.mk (And.intro p3 p4); clear p1 p2 p3 p4)))
                  go_end0
                  have hv := halves (X := X) (Y := Y) HPU.out HVQ.out HP.out.1 HP.out.2 HX.out.1 HX.out.2 Y5.out.1 Y5.out.2
                  exact ⟨rfl, C5.out, X ++ Y, by have := R5.out; simp only [List.append_assoc] at this ⊢; exact this, hv.1, by rw [HST.out]; exact hv.2⟩
                · have HY := Aside0.mk (show Srt (U ++ Q) by
                    rcases List.eq_nil_or_concat U with h | ⟨_, _, h⟩
                    · rw [h]; exact srt_right HVQ.out
                    · rcases List.eq_nil_or_concat Q with h2 | ⟨_, _, h2⟩
                      · rw [h2, List.append_nil]; exact srt_right HPU.out
                      · exact absurd ⟨by rw [h]; simp, by rw [h2]; simp⟩ hu0)
                  by_cases hu1 : 0 < U.length
                  · have t5 : decide ((mid : Int) < (E : Int)) = true := decide_eq_true (by have := HNN.out; have := HE.out; have := HUl.out; omega)
                    have t5b : decide (mid < E) = true := decide_eq_true (by have := HNN.out; have := HE.out; have := HUl.out; omega)
                    have t6 : decide ((E : Int) < (b : Int)) = false := decide_eq_false (by have := HNN.out; have := HE.out; have := HQl.out; have := HB.out; omega)
                    have t6b : decide (E < b) = false := decide_eq_false (by have := HNN.out; have := HE.out; have := HQl.out; have := HB.out; omega)
                    go_wp2
                    go_end0
                    have hv := halves (X := X) (Y := U ++ Q) HPU.out HVQ.out HP.out.1 HP.out.2 HX.out.1 HX.out.2 HY.out (Sw.refl _)
                    exact ⟨rfl, HC3.out, X ++ (U ++ Q), by have := HR3.out; simp only [List.append_assoc] at this ⊢; exact this, hv.1, by rw [HST.out]; exact hv.2⟩
                  · have t5 : decide ((mid : Int) < (E : Int)) = false := decide_eq_false (by have := HNN.out; have := HE.out; have := HUl.out; omega)
                    have t5b : decide (mid < E) = false := decide_eq_false (by have := HNN.out; have := HE.out; have := HUl.out; omega)
                    go_wp2
                    go_end0
                    have hv := halves (X := X) (Y := U ++ Q) HPU.out HVQ.out HP.out.1 HP.out.2 HX.out.1 HX.out.2 HY.out (Sw.refl _)
                    exact ⟨rfl, HC3.out, X ++ (U ++ Q), by have := HR3.out; simp only [List.append_assoc] at this ⊢; exact this, hv.1, by rw [HST.out]; exact hv.2⟩
end Go.Proofs.YtiggjbclbdikmaaDoor.Nt
namespace Go.Proofs.YtiggjbclbdikmaaDoor.Nw
set_option linter.unusedVariables false
set_option linter.unusedSimpArgs false
open Go.RowKit Go.Proofs.YtiggjbclbdikmaaDoorW.PrintWords Go.Proofs.YtiggjbclbdikmaaDoor.Hp Go.Proofs.YtiggjbclbdikmaaDoor.Va Go.Proofs.YtiggjbclbdikmaaDoor.Na Go.Proofs.YtiggjbclbdikmaaDoor.Nb Go.Proofs.YtiggjbclbdikmaaDoor.Nc Go.Proofs.YtiggjbclbdikmaaDoor.Nd Go.Proofs.YtiggjbclbdikmaaDoor.Nr Go.Proofs.YtiggjbclbdikmaaDoor.Ns Go.Proofs.YtiggjbclbdikmaaDoor.Nt
theorem MrgP (g : Nat) (hg : 3 ≤ g) (pre post : List Value) (n c off : Nat) (hn5 : n ≤ 1000000000000000) (hoff : off = pre.length) : ∀ L, Merges off n c g pre post L
  | 0 => fun w A S T C a m b hG hS hT h1 h2 h3 => by omega
  | L + 1 => fun w A S T C a m b hG hS hT h1 h2 h3 hR hn ha hm hb => by
    match S, h1 with
    | [x], _ =>
      exact MrgL w hG g hg pre post A T C x c hT h2 hR n hn hn5 off hoff a m b ha (by simpa using hm) hb
    | x :: y :: S', _ =>
      match T, h2 with
      | [z], _ =>
        exact MrgR w hG g hg pre post A (x :: y :: S') C z c hS (by simp) hR n hn hn5 off hoff a m b ha hm (by simpa using hb)
      | z :: u :: T', _ =>
        have h1 : 1 < (x :: y :: S').length := by simp
        have h2 : 1 < (z :: u :: T').length := by simp
        by_cases hc : (a + b) / 2 < m
        · exact MrgG g hg pre post n c off L hn5 hoff (MrgP g hg pre post n c off hn5 hoff L) w hG A _ _ C hS hT h1 h2 h3 hR hn a m b ha hm hb _ rfl _ _ (.inl ⟨hc, rfl, rfl⟩)
        · exact MrgG g hg pre post n c off L hn5 hoff (MrgP g hg pre post n c off hn5 hoff L) w hG A _ _ C hS hT h1 h2 h3 hR hn a m b ha hm hb _ rfl _ _ (.inr ⟨by omega, rfl, rfl⟩)
def Full (B : Nat) (A : List Int) : Prop := ∃ cs : List (List Int), A = cs.flatten ∧ ∀ c ∈ cs, c.length = B ∧ Srt c
def Bs (B : Nat) (R : List Int) : Prop := ∃ (cs : List (List Int)) (t : List Int), R = cs.flatten ++ t ∧ (∀ c ∈ cs, c.length = B ∧ Srt c) ∧ t.length < B ∧ Srt t
theorem Full.nil (B : Nat) : Full B [] := ⟨[], rfl, fun _ h => by cases h⟩
theorem Full.snoc {B : Nat} {A c : List Int} (h : Full B A) (hc : c.length = B) (hs : Srt c) : Full B (A ++ c) := by
  obtain ⟨cs, rfl, h⟩ := h
  refine ⟨cs ++ [c], by simp, fun d hd => ?_⟩
  rcases List.mem_append.1 hd with hd | hd
  · exact h d hd
  · rw [List.mem_singleton.1 hd]; exact ⟨hc, hs⟩
theorem Full.bs {B : Nat} {A t : List Int} (h : Full B A) (hc : t.length < B) (hs : Srt t) : Bs B (A ++ t) := by
  obtain ⟨cs, rfl, h⟩ := h
  exact ⟨cs, t, rfl, h, hc, hs⟩
theorem Bs.two {B : Nat} {R : List Int} (h : Bs B R) (hl : 2 * B ≤ R.length) : ∃ S T R', R = S ++ T ++ R' ∧ S.length = B ∧ T.length = B ∧ Srt S ∧ Srt T ∧ Bs B R' := by
  obtain ⟨cs, t, rfl, h, h1, h2⟩ := h
  match cs, h, hl with
  | [], _, hl => simp only [List.flatten_nil, List.nil_append] at hl; omega
  | [c], h, hl =>
    have := (h c (by simp)).1
    simp only [List.flatten_cons, List.flatten_nil, List.append_nil, List.length_append] at hl
    omega
  | c :: d :: cs, h, _ =>
    exact ⟨c, d, cs.flatten ++ t, by simp, (h c (by simp)).1, (h d (by simp)).1, (h c (by simp)).2, (h d (by simp)).2, cs, t, rfl, fun e he => h e (by simp [he]), h1, h2⟩
theorem Bs.rest {B : Nat} {R : List Int} (h : Bs B R) (hl : R.length < 2 * B) : (R.length ≤ B ∧ Srt R) ∨ ∃ S T, R = S ++ T ∧ S.length = B ∧ 0 < T.length ∧ Srt S ∧ Srt T := by
  obtain ⟨cs, t, rfl, h, h1, h2⟩ := h
  match cs, h, hl with
  | [], _, _ => exact .inl ⟨by simp only [List.flatten_nil, List.nil_append]; omega, by simpa using h2⟩
  | [c], h, _ =>
    have hc := h c (by simp)
    rcases Nat.eq_zero_or_pos t.length with ht | ht
    · rw [List.eq_nil_of_length_eq_zero ht]
      exact .inl ⟨by simp [hc.1], by simpa using hc.2⟩
    · exact .inr ⟨c, t, by simp, hc.1, ht, hc.2, h2⟩
  | c :: d :: cs, h, hl =>
    have := (h c (by simp)).1
    have := (h d (by simp)).1
    simp only [List.flatten_cons, List.length_append] at hl
    omega
def SrtPost (w : World) (g : Nat) (pre post : List Value) (l : List Int) (e : Ending) (w' : World) : Prop :=
  e = .returned (.tuple #[]) ∧ Chg (fun b => b = g) w w' ∧ ∃ S, Reg w' g pre post S ∧ Srt S ∧ Sw l S
set_option maxRecDepth 100000 in
set_option maxHeartbeats 8000000 in
theorem StbP (w : World) (hG : G w) (g : Nat) (hg : 3 ≤ g) (pre post : List Value) (l : List Int) (hR : Reg w g pre post l) (n c off : Nat) (hn : n = l.length) (hn5 : n ≤ 1000000000000000) (hoff : off = pre.length) :
    Calls Tryd.prog 90 #[.slice (some ⟨g, off, none⟩) n c, .int .i64 (n : Int), .func (.func 77) #[] #[]] w (SrtPost w g pre post l) := by
  have HG := Aside0.mk hG
  have HR := Aside0.mk hR
  have HF := Aside0.mk hoff
  have HN := Aside0.mk hn
  clear hG hR hn hoff
  go_enter Tryd.func90, Tryd.ntmps90
  go_wp2
  go_loopw [7, 8] (fun av bv wr => ∃ (a b : Nat) (A R : List Int), av = .int .i64 a ∧ bv = .int .i64 b ∧ b = a + 20 ∧ a ≤ n ∧ Aside0 (a = A.length) ∧ Aside0 (Full 20 A) ∧ Aside0 (n = A.length + R.length) ∧ Aside0 (Reg wr g pre post (A ++ R)) ∧ Aside0 (Sw l (A ++ R)) ∧ Aside0 (Chg (fun b => b = g) w wr)) (fun av _ _ => n - (intOf av).toNat)
  case atStart => exact ⟨0, 20, [], l, rfl, rfl, rfl, Nat.zero_le _, ⟨rfl⟩, ⟨Full.nil _⟩, ⟨by rw [HN.out]; simp⟩, HR, ⟨Sw.refl _⟩, ⟨Chg.refl _ _⟩⟩
  case round =>
    obtain ⟨a, b, A, R, rfl, rfl, hb, han, HA, HFu, HNl, HRr, HSw, HC⟩ := hrel
    have HB := Aside0.mk hb
    clear hb
    by_cases hlt : b ≤ n
    · have hd : decide ((b : Int) ≤ (n : Int)) = true := decide_eq_true (by omega)
      have hd2 : decide (b ≤ n) = true := decide_eq_true hlt
      have HCall := Aside0.mk (InsP wr (G_chg HG.out HC.out (fun k hk e => by omega)) g hg pre post A (R.take 20) (R.drop 20) c (by have := HRr.out; rw [List.append_assoc, List.take_append_drop]; exact this) n (by rw [HNl.out]; have := HB.out; simp only [List.length_append, List.length_take, List.length_drop]; omega) hn5 off HF.out a b HA.out (by have := HNl.out; have := HA.out; have := HB.out; simp only [List.length_take]; omega))
      go_wp2_with (first | (go_at_call 96; go_must (refine HCall.out.mono ?_; rintro e w2 ⟨rfl, p1, X, p2, p3, p4⟩; have HC1 := Aside0.mk (HC.out.trans p1 (fun _ _ h => h)); have HR1 := Aside0.mk p2; have HX := Aside0.mk (And.intro p3 p4); clear p1 p2 p3 p4 HC HRr)))
      go_roundw
      case rel =>
        have := HNl.out
        have := HA.out
        have := HB.out
        have hxl : X.length = 20 := by rw [← HX.out.2.length, List.length_take]; omega
        exact ⟨b, b + 20, A ++ X, R.drop 20, rfl, by go_num, rfl, hlt, ⟨by rw [List.length_append]; omega⟩, ⟨HFu.out.snoc hxl HX.out.1⟩, ⟨by simp only [List.length_append, List.length_drop]; omega⟩, HR1, ⟨HSw.out.trans (by have h := ((Sw.refl A).append HX.out.2).append (Sw.refl (R.drop 20)); rw [List.append_assoc A (R.take 20), List.take_append_drop] at h; exact h)⟩, HC1⟩
      case measure => have := HB.out; simp [intOf] <;> omega
    · have hd : decide ((b : Int) ≤ (n : Int)) = false := decide_eq_false (by omega)
      have hd2 : decide (b ≤ n) = false := decide_eq_false hlt
      have HCall := Aside0.mk (InsP wr (G_chg HG.out HC.out (fun k hk e => by omega)) g hg pre post A R [] c (by have := HRr.out; rw [List.append_nil]; exact this) n (by rw [HNl.out]; simp only [List.length_append, List.length_nil]; omega) hn5 off HF.out a n HA.out HNl.out)
      go_wp2_with (first | (go_at_call 96; go_must (refine HCall.out.mono ?_; rintro e w2 ⟨rfl, p1, X, p2, p3, p4⟩; have HC1 := Aside0.mk (HC.out.trans p1 (fun _ _ h => h)); have HR1 := Aside0.mk p2; have HX := Aside0.mk (And.intro p3 p4); clear p1 p2 p3 p4 HC HRr)))
      have HBs : Aside0 (Bs 20 (A ++ X)) := ⟨HFu.out.bs (by have := HX.out.2.length; have := HNl.out; have := HA.out; have := HB.out; omega) HX.out.1⟩
      have HR2 : Aside0 (Reg w2 g pre post (A ++ X)) := ⟨by have := HR1.out; rw [List.append_nil] at this; exact this⟩
      have HS2 : Aside0 (Sw l (A ++ X)) := ⟨HSw.out.trans ((Sw.refl A).append HX.out.2)⟩
      obtain ⟨L, hL⟩ : ∃ L, L = A ++ X := ⟨_, rfl⟩
      rw [← hL] at HBs HR2 HS2
      clear hL HR1 HX HSw HNl HFu HA HB HCall hd hd2 hlt
      go_loopw [6] (fun Bv wr => ∃ (B : Nat) (L : List Int), Bv = .int .i64 B ∧ 20 ≤ B ∧ B ≤ 2 * n + 20 ∧ Aside0 (Bs B L) ∧ Aside0 (Reg wr g pre post L) ∧ Aside0 (Sw l L) ∧ Aside0 (Chg (fun b => b = g) w wr)) (fun Bv _ => n - (intOf Bv).toNat)
      case atStart => exact ⟨20, L, rfl, Nat.le_refl _, by omega, HBs, HR2, HS2, HC1⟩
      case round =>
        clear HBs HR2 HS2 HC1
        obtain ⟨B, M, rfl, hB1, hB2, HBs, HR2, HS2, HC1⟩ := hrel
        have HNM := Aside0.mk (show n = M.length by rw [HN.out]; exact HS2.out.length)
        by_cases hBn : B < n
        · have hd : decide ((B : Int) < (n : Int)) = true := decide_eq_true (by omega)
          have hd2 : decide (B < n) = true := decide_eq_true hBn
          obtain ⟨D, hD⟩ : ∃ D, D = 2 * B := ⟨_, rfl⟩
          have eD : (2 : Int) * (B : Int) = (D : Int) := by omega
          have HD := Aside0.mk hD
          have hDn : D ≤ 2 * n := by omega
          clear hD
          go_wp2
          go_loopw [7, 8] (fun av bv wr => ∃ (a b : Nat) (A R : List Int), av = .int .i64 a ∧ bv = .int .i64 b ∧ b = a + D ∧ a ≤ n ∧ Aside0 (a = A.length) ∧ Aside0 (Full D A) ∧ Aside0 (Bs B R) ∧ Aside0 (n = A.length + R.length) ∧ Aside0 (Reg wr g pre post (A ++ R)) ∧ Aside0 (Sw l (A ++ R)) ∧ Aside0 (Chg (fun b => b = g) w wr)) (fun av _ _ => n - (intOf av).toNat)
          case atStart => exact ⟨0, D, [], M, rfl, rfl, by omega, Nat.zero_le _, ⟨rfl⟩, ⟨Full.nil _⟩, HBs, ⟨by rw [HNM.out]; simp⟩, HR2, HS2, HC1⟩
          case round =>
            clear HBs HR2 HS2 HC1 HNM
            obtain ⟨a, b, A, R, rfl, rfl, hb, han, HA, HFu, HBs, HNl, HRr, HSw, HC⟩ := hrel
            obtain ⟨m, hm⟩ : ∃ m, m = a + B := ⟨_, rfl⟩
            have em : (a : Int) + (B : Int) = (m : Int) := by omega
            have HB := Aside0.mk hb
            clear hb
            by_cases hlt : b ≤ n
            · have hd : decide ((b : Int) ≤ (n : Int)) = true := decide_eq_true (by omega)
              have hd2 : decide (b ≤ n) = true := decide_eq_true hlt
              obtain ⟨S, T, R', hRe, hSl, hTl, hSs, hTs, hRb⟩ := HBs.out.two (by have := HNl.out; have := HA.out; have := HD.out; have := HB.out; omega)
              have HCall := Aside0.mk (MrgP g hg pre post n c off hn5 HF.out _ wr A S T R' a m b (G_chg HG.out HC.out (fun k hk e => by omega)) hSs hTs (by omega) (by omega) (Nat.le_refl _) (by have := HRr.out; rw [hRe] at this; simp only [List.append_assoc] at this ⊢; exact this) (by rw [HNl.out, hRe]; simp only [List.length_append]; omega) HA.out (by omega) (by have := HD.out; have := HB.out; omega))
              have HRe := Aside0.mk (And.intro hRe (And.intro hSl (And.intro hTl hRb)))
              clear hRe hSl hTl hSs hTs hRb hm
              go_wp2_with (first | (go_at_call 97; go_must (refine HCall.out.mono ?_; rintro e w2 ⟨rfl, p1, X, p2, p3, p4⟩; have HC1 := Aside0.mk (HC.out.trans p1 (fun _ _ h => h)); have HR1 := Aside0.mk p2; have HX := Aside0.mk (And.intro p3 p4); clear p1 p2 p3 p4 HC HRr)))
              go_roundw
              case rel =>
                have := HNl.out
                have := HA.out
                obtain ⟨hRe, hSl, hTl, hRb⟩ := HRe.out
                have hxl : X.length = D := by rw [← HX.out.2.length, List.length_append, HD.out]; omega
                have hrl : R.length = S.length + T.length + R'.length := by rw [hRe]; simp only [List.length_append]
                have := HD.out
                have := HB.out
                exact ⟨b, b + D, A ++ X, R', rfl, by go_num, rfl, hlt, ⟨by rw [List.length_append]; omega⟩, ⟨HFu.out.snoc hxl HX.out.1⟩, ⟨hRb⟩, ⟨by simp only [List.length_append]; omega⟩, HR1, ⟨HSw.out.trans (by have h := ((Sw.refl A).append HX.out.2).append (Sw.refl R'); rw [hRe]; simp only [List.append_assoc] at h ⊢; exact h)⟩, HC1⟩
              case measure => have := HB.out; have := HD.out; simp [intOf] <;> omega
            · have hd : decide ((b : Int) ≤ (n : Int)) = false := decide_eq_false (by omega)
              have hd2 : decide (b ≤ n) = false := decide_eq_false hlt
              rcases HBs.out.rest (by have := HNl.out; have := HA.out; have := HD.out; have := HB.out; omega) with ⟨hRl, hRs⟩ | ⟨S, T, hRe, hSl, hTl, hSs, hTs⟩
              · have hq : decide ((m : Int) < (n : Int)) = false := decide_eq_false (by have := HNl.out; have := HA.out; omega)
                have hq2 : decide (m < n) = false := decide_eq_false (by have := HNl.out; have := HA.out; omega)
                have HX := Aside0.mk (And.intro hRl hRs)
                clear hRl hRs hm
                go_wp2
                go_roundw
                case rel => exact ⟨D, A ++ R, by rw [Int.mul_comm, eD], by have := HD.out; omega, by omega, ⟨HFu.out.bs (by have := HX.out.1; have := HD.out; omega) HX.out.2⟩, HRr, HSw, HC⟩
                case measure => simp [intOf] <;> (have := HD.out; omega)
              · have hrl : R.length = S.length + T.length := by rw [hRe]; simp only [List.length_append]
                have hq : decide ((m : Int) < (n : Int)) = true := decide_eq_true (by have := HNl.out; have := HA.out; omega)
                have hq2 : decide (m < n) = true := decide_eq_true (by have := HNl.out; have := HA.out; omega)
                have HCall := Aside0.mk (MrgP g hg pre post n c off hn5 HF.out _ wr A S T [] a m n (G_chg HG.out HC.out (fun k hk e => by omega)) hSs hTs (by omega) hTl (Nat.le_refl _) (by have := HRr.out; rw [hRe] at this; simp only [List.append_assoc, List.append_nil] at this ⊢; exact this) (by rw [HNl.out, hRe]; simp only [List.length_append, List.length_nil]; omega) HA.out (by omega) (by have := HNl.out; have := HA.out; omega))
                have HRe := Aside0.mk (And.intro hRe hrl)
                clear hRe hSl hTl hSs hTs hm hrl
                go_wp2_with (first | (go_at_call 97; go_must (refine HCall.out.mono ?_; rintro e w2 ⟨rfl, p1, X, p2, p3, p4⟩; have HC1 := Aside0.mk (HC.out.trans p1 (fun _ _ h => h)); have HR1 := Aside0.mk p2; have HX := Aside0.mk (And.intro p3 p4); clear p1 p2 p3 p4 HC HRr)))
                go_roundw
                case rel =>
                  have := HNl.out
                  have := HA.out
                  obtain ⟨hRe, hrl⟩ := HRe.out
                  have hxl : X.length = R.length := by rw [← HX.out.2.length, hRe]
                  exact ⟨D, A ++ X, by rw [Int.mul_comm, eD], by have := HD.out; omega, by omega, ⟨HFu.out.bs (by have := HD.out; have := HB.out; omega) HX.out.1⟩, ⟨by have := HR1.out; rw [List.append_nil] at this; exact this⟩, ⟨HSw.out.trans (by rw [hRe]; exact (Sw.refl A).append HX.out.2)⟩, HC1⟩
                case measure => simp [intOf] <;> (have := HD.out; omega)
        · have hd : decide ((B : Int) < (n : Int)) = false := decide_eq_false (by omega)
          have hd2 : decide (B < n) = false := decide_eq_false hBn
          go_wp2
          go_end0
          refine ⟨rfl, HC1.out, M, HR2.out, ?_, HS2.out⟩
          rcases HBs.out.rest (by have := HNM.out; omega) with ⟨_, h⟩ | ⟨S, T, hRe, hSl, hTl, _, _⟩
          · exact h
          · have := HNM.out
            rw [hRe, List.length_append] at this
            omega
set_option maxRecDepth 100000 in
theorem SortP (w : World) (hG : G w) (g : Nat) (hg : 3 ≤ g) (pre post : List Value) (l : List Int) (hR : Reg w g pre post l) (n c off : Nat) (hn : n = l.length) (hn5 : n ≤ 1000000000000000) (hoff : off = pre.length) :
    Calls Tryd.prog 76 #[.slice (some ⟨g, off, none⟩) n c, .func (.func 77) #[] #[]] w (SrtPost w g pre post l) := by
  have HCall := Aside0.mk (StbP w hG g hg pre post l hR n c off hn hn5 hoff)
  clear hG hR hn hoff
  go_enter Tryd.func76, Tryd.ntmps76
  go_wp2_with (first | (go_at_call 90; go_must (refine HCall.out.mono ?_; rintro e w2 ⟨rfl, p1, X, p2, p3, p4⟩; have HC1 := Aside0.mk p1; have HR1 := Aside0.mk p2; have HX := Aside0.mk (And.intro p3 p4); clear p1 p2 p3 p4)))
  go_end0
  exact ⟨rfl, HC1.out, X, HR1.out, HX.out.1, HX.out.2⟩
end Go.Proofs.YtiggjbclbdikmaaDoor.Nw
namespace Go.Proofs.YtiggjbclbdikmaaDoor.Ng
set_option linter.unusedVariables false
set_option linter.unusedSimpArgs false
open Go.RowKit Go.Proofs.YtiggjbclbdikmaaDoorW.PrintWords Go.Proofs.YtiggjbclbdikmaaDoor.Hp Go.Proofs.YtiggjbclbdikmaaDoor.Va Go.Proofs.YtiggjbclbdikmaaDoor.Na Go.Proofs.YtiggjbclbdikmaaDoor.Nb Go.Proofs.YtiggjbclbdikmaaDoor.Nc Go.Proofs.YtiggjbclbdikmaaDoor.Nd Go.Proofs.YtiggjbclbdikmaaDoor.Nr Go.Proofs.YtiggjbclbdikmaaDoor.Ns Go.Proofs.YtiggjbclbdikmaaDoor.Nw
theorem nums_app (k : IntKind) (a b : List Int) : nums k (a ++ b) = nums k a ++ nums k b := by simp [nums]
theorem nums_len (k : IntKind) (a : List Int) : (nums k a).length = a.length := by simp [nums]
theorem Reg.mid {w : World} {g : Nat} {pre post : List Value} {P S Q : List Int} (h : Reg w g pre post (P ++ S ++ Q)) : Reg w g (pre ++ nums .i32 P) (nums .i32 Q ++ post) S := by
  unfold Reg at *
  rw [h, nums_app, nums_app]
  simp only [List.append_assoc]
theorem Reg.out {w : World} {g : Nat} {pre post : List Value} {P S Q : List Int} (h : Reg w g (pre ++ nums .i32 P) (nums .i32 Q ++ post) S) : Reg w g pre post (P ++ S ++ Q) := by
  unfold Reg at *
  rw [h, nums_app, nums_app]
  simp only [List.append_assoc]
theorem ordL_nil : ordL [] = [] := rfl
theorem run_step {l D R S : List Int} (k : Nat) (hl : ordL l = D ++ ordL R) (hk : ∀ x ∈ R.take k, cls x ≠ 0) (hS : Srt S) (hSw : Sw (R.take k) S) :
    (R.drop k = [] → ordL l = D ++ S ++ ordL []) ∧ (∀ z t, R.drop k = z :: t → cls z = 0 → ordL l = (D ++ S ++ [z]) ++ ordL t) := by
  have h1 : ordL (R.take k) = S := ordL_run hk hS hSw
  refine ⟨fun h => ?_, fun z t h hz => ?_⟩
  · rw [hl, ordL_nil, List.append_nil, ← h1, ← List.take_append_drop k R, h, List.append_nil, List.take_take, Nat.min_self]
  · have h2 : ordL R = ordL (R.take k) ++ z :: ordL t := by
      rw [← ordL_starter _ _ hz, ← h, List.take_append_drop]
    rw [hl, h2, h1]
    simp
set_option maxRecDepth 100000 in
set_option maxHeartbeats 4000000 in
theorem OrdP (w : World) (hG : G w) (g : Nat) (hg : 3 ≤ g) (post : List Value) (l : List Int) (hR : Reg w g [] post l) (n c : Nat) (hn : n = l.length) (hn5 : n ≤ 1000000000000000) (hcn : n ≤ c) :
    Calls Tryd.prog 54 #[.slice (some ⟨g, 0, none⟩) n c] w fun e w' => e = .returned (.slice (some ⟨g, 0, none⟩) n c) ∧ Chg (fun b => b = g) w w' ∧ Reg w' g [] post (ordL l) := by
  have HG := Aside0.mk hG
  have HR := Aside0.mk hR
  have HN := Aside0.mk hn
  clear hG hR hn
  go_enter Tryd.func54, Tryd.ntmps54
  go_wp2
  go_loopw [3] (fun fv wr => ∃ (f : Nat) (D R : List Int), fv = .int .i64 f ∧ f ≤ n + 1 ∧ Aside0 (f = D.length ∨ (R = [] ∧ D.length ≤ f)) ∧ Aside0 (n = D.length + R.length) ∧ Aside0 (ordL l = D ++ ordL R) ∧ Aside0 (Reg wr g [] post (D ++ R)) ∧ Aside0 (Chg (fun b => b = g) w wr)) (fun fv _ => n + 1 - (intOf fv).toNat)
  case atStart => exact ⟨0, [], l, rfl, Nat.zero_le _, ⟨.inl rfl⟩, ⟨by rw [HN.out]; simp⟩, ⟨by simp⟩, HR, ⟨Chg.refl _ _⟩⟩
  case round =>
    obtain ⟨f, D, R, rfl, hfn, HFd, HNl, HO, HRr, HC⟩ := hrel
    by_cases hlt : f < n
    · have hd : decide ((f : Int) < (n : Int)) = true := decide_eq_true (by omega)
      have hd2 : decide (f < n) = true := decide_eq_true hlt
      have HDl : Aside0 (f = D.length) := ⟨by
        rcases HFd.out with h | ⟨h1, h2⟩
        · exact h
        · have := HNl.out
          rw [h1] at this
          simp at this
          omega⟩
      clear HFd
      go_wp2
      go_loopw [4] (fun tv wr => ∃ (t : Nat), tv = .int .i64 t ∧ f ≤ t ∧ t ≤ n ∧ Aside0 (∀ x ∈ R.take (t - f), cls x ≠ 0) ∧ Aside0 (Reg wr g [] post (D ++ R)) ∧ Aside0 (Chg (fun b => b = g) w wr)) (fun tv _ => n - (intOf tv).toNat)
      case atStart => exact ⟨f, rfl, Nat.le_refl _, by omega, ⟨by rw [Nat.sub_self]; simp⟩, HRr, HC⟩
      case round =>
        clear HRr HC
        obtain ⟨t, rfl, hft, htn, HK, HR2, HC2⟩ := hrel
        by_cases htl : t < n
        · have hq : decide ((t : Int) < (n : Int)) = true := decide_eq_true (by omega)
          have hq2 : decide (t < n) = true := decide_eq_true htl
          have hj : (t : Int) < (n : Int) := by omega
          obtain ⟨x, hx1, hx2, hx3, -⟩ := split_at (S := R) (t := t - f) (by have := HNl.out; have := HDl.out; omega)
          have c1 := HR2.out
          rw [hx1, show D ++ (R.take (t - f) ++ x :: R.drop (t - f + 1)) = (D ++ R.take (t - f)) ++ x :: R.drop (t - f + 1) by simp] at c1
          have c1 := Reg.one c1 (off := 0) rfl (p := t) (by have := HDl.out; have := HNl.out; simp only [List.length_append, List.length_take]; omega)
          rw [Nat.zero_add] at c1
          have HX1 := Aside0.mk hx2
          have HX2 := Aside0.mk hx3
          clear hx1 hx2 hx3
          by_cases hc : cls x = 0
          · have hc2 : (cls x != 0) = false := by rw [hc]; rfl
            have hc3 : (cls x == 0) = true := by rw [hc]; rfl
            have HCx := Aside0.mk hc
            have HCl := Aside0.mk (ClassP wr (G_chg HG.out HC2.out (fun k hk e => by omega)) x)
            clear hc
            go_upto_region 6 with (first | (go_at_call 62; go_must (refine HCl.out.mono ?_; rintro e w2 ⟨rfl, p1⟩; have HC3 := Aside0.mk (HC2.out.then_below p1); have HR3 := Aside0.mk (HR2.out.below p1); clear p1 c1 HC2 HR2)))
            have HC2 := HC3
            have HR2 := HR3
            clear HC3 HR3
            have HCall := Aside0.mk (SortP _ (G_chg HG.out HC2.out (fun k hk e => by omega)) g hg (nums .i32 D) (nums .i32 (R.drop (t - f)) ++ post) (R.take (t - f)) (Reg.mid (pre := []) (by have := HR2.out; rw [List.append_assoc, List.take_append_drop]; exact this)) (t - f) (c - f) f (by have := HNl.out; have := HDl.out; rw [List.length_take]; omega) (by omega) (by rw [nums_len]; exact HDl.out))
            have i1 : ((t : Int) - (f : Int)) = ((t - f : Nat) : Int) := by omega
            go_wp2_with (first | (go_at_call 76; go_must (refine HCall.out.mono ?_; rintro e w3 ⟨rfl, p1, X, p2, p3, p4⟩; have HC3 := Aside0.mk (HC2.out.trans p1 (fun _ _ h => h)); have HR3 := Aside0.mk (Reg.out (pre := []) p2); have HX := Aside0.mk (And.intro p3 p4); clear p1 p2 p3 p4 HC2 HR2)))
            go_roundw
            case rel =>
              have h1 := HX2.out
              have := HNl.out
              have := HDl.out
              have hxl : X.length = t - f := by rw [← HX.out.2.length, List.length_take]; omega
              exact ⟨t + 1, D ++ X ++ [x], R.drop (t - f + 1), by go_num, by omega, ⟨.inl (by simp only [List.length_append, List.length_singleton]; omega)⟩, ⟨by simp only [List.length_append, List.length_singleton, List.length_drop]; omega⟩, ⟨(run_step (t - f) HO.out HK.out HX.out.1 HX.out.2).2 x _ HX1.out HCx.out⟩, ⟨by have := HR3.out; rw [HX1.out] at this; simp only [List.append_assoc, List.singleton_append] at this ⊢; exact this⟩, HC3⟩
            case measure => simp [intOf] <;> omega
          · have hc2 : (cls x != 0) = true := by simpa using hc
            have hc3 : (cls x == 0) = false := by simpa using hc
            have HCx := Aside0.mk hc
            have HCl := Aside0.mk (ClassP wr (G_chg HG.out HC2.out (fun k hk e => by omega)) x)
            clear hc
            go_wp2_with (first | (go_at_call 62; go_must (refine HCl.out.mono ?_; rintro e w2 ⟨rfl, p1⟩; have HC3 := Aside0.mk (HC2.out.then_below p1); have HR3 := Aside0.mk (HR2.out.below p1); clear p1 c1 HC2 HR2)))
            go_roundw
            case rel => exact ⟨t + 1, by go_num, by omega, by omega, ⟨by rw [show t + 1 - f = t - f + 1 by omega, HX2.out]; intro y hy; rcases List.mem_append.1 hy with hy | hy; (· exact HK.out y hy); (· rw [List.mem_singleton.1 hy]; exact HCx.out)⟩, HR3, HC3⟩
            case measure => simp [intOf] <;> omega
        · have hq : decide ((t : Int) < (n : Int)) = false := decide_eq_false (by omega)
          have hq2 : decide (t < n) = false := decide_eq_false htl
          have htn2 : t = n := by omega
          have HT := Aside0.mk htn2
          clear htn2
          go_upto_region 6 with (fail)
          have HCall := Aside0.mk (SortP _ (G_chg HG.out HC2.out (fun k hk e => by omega)) g hg (nums .i32 D) (nums .i32 (R.drop (t - f)) ++ post) (R.take (t - f)) (Reg.mid (pre := []) (by have := HR2.out; rw [List.append_assoc, List.take_append_drop]; exact this)) (t - f) (c - f) f (by have := HNl.out; have := HDl.out; rw [List.length_take]; omega) (by omega) (by rw [nums_len]; exact HDl.out))
          have i1 : ((t : Int) - (f : Int)) = ((t - f : Nat) : Int) := by omega
          go_wp2_with (first | (go_at_call 76; go_must (refine HCall.out.mono ?_; rintro e w3 ⟨rfl, p1, X, p2, p3, p4⟩; have HC3 := Aside0.mk (HC2.out.trans p1 (fun _ _ h => h)); have HR3 := Aside0.mk (Reg.out (pre := []) p2); have HX := Aside0.mk (And.intro p3 p4); clear p1 p2 p3 p4 HC2 HR2)))
          go_roundw
          case rel =>
            have := HNl.out
            have := HDl.out
            have := HT.out
            have hdr : R.drop (t - f) = [] := List.drop_eq_nil_of_le (by omega)
            have hxl : X.length = t - f := by rw [← HX.out.2.length, List.length_take]; omega
            exact ⟨t + 1, D ++ X, [], by go_num, by omega, ⟨.inr ⟨rfl, by simp only [List.length_append]; omega⟩⟩, ⟨by simp only [List.length_append, List.length_nil]; omega⟩, ⟨(run_step (t - f) HO.out HK.out HX.out.1 HX.out.2).1 hdr⟩, ⟨by have := HR3.out; rw [hdr] at this; exact this⟩, HC3⟩
          case measure => simp [intOf] <;> omega
    · have hd : decide ((f : Int) < (n : Int)) = false := decide_eq_false (by omega)
      have hd2 : decide (f < n) = false := decide_eq_false hlt
      go_wp2
      go_ret
      refine ⟨rfl, HC.out, ?_⟩
      have hr : R = [] := by
        rcases HFd.out with h | ⟨h1, h2⟩
        · have := HNl.out
          exact List.eq_nil_of_length_eq_zero (by omega)
        · exact h1
      have h1 := HO.out
      have h2 := HRr.out
      rw [hr] at h1 h2
      rw [h1]
      exact h2
set_option maxRecDepth 100000 in
theorem OrdN (w : World) : Calls Tryd.prog 54 #[.slice none 0 0] w fun e w' => e = .returned (.slice none 0 0) ∧ Chg (fun _ => False) w w' := by
  go_enter Tryd.func54, Tryd.ntmps54
  go_wp2
  go_loopw [3] (fun fv wr => fv = .int .i64 0 ∧ Aside0 (Chg (fun _ => False) w wr)) (fun fv _ => 0)
  case atStart => exact ⟨rfl, ⟨Chg.refl _ _⟩⟩
  case round =>
    obtain ⟨rfl, HC⟩ := hrel
    go_wp2
    go_ret
    exact ⟨rfl, HC.out⟩
end Go.Proofs.YtiggjbclbdikmaaDoor.Ng
namespace Go.Proofs.YtiggjbclbdikmaaDoor.X
open Go.RowKit Go.Proofs.YtiggjbclbdikmaaDoorW.PrintWords Go.Proofs.YtiggjbclbdikmaaDoor.Hp Go.Proofs.YtiggjbclbdikmaaDoor.Na Go.Proofs.YtiggjbclbdikmaaDoor.Nb Go.Proofs.YtiggjbclbdikmaaDoor.Ng
def norm_ordered.f (a0 : List Int) : Option (List Int) := if a0.length ≤ 1000000000000000 then some (ordL a0) else none
theorem norm_ordered.calls (P0_ : Nat → Prop) (u9000_ : Value) (l0 : List Int) (r : List Int) (w0 w : World) (hB : Below w0.heap.size w0 w) (ho0 : Kd.R (Kd.int .i32) 21 w w0.heap.size P0_ u9000_ l0) (h : norm_ordered.f l0 = some r) (hG0 : Va.G w0) :
    Calls Tryd.prog 54 #[u9000_] w fun e w' => ∃ v0_ : Value, e = .returned v0_ ∧ Kd.R (Kd.int .i32) 21 w' w0.heap.size (fun k_ => (P0_ k_ ∨ w.heap.size ≤ k_)) v0_ r ∧ Below w0.heap.size w0 w' ∧ Kept w w' (fun k_ => P0_ k_) := by
  unfold norm_ordered.f at h
  split at h
  case isFalse => exact absurd h (by simp)
  case isTrue hl =>
    have h := Option.some.inj h
    have hG : Va.G w := hG0.below hB
    have hok := ho0.1
    rcases Reg.of_row (n := 0) (c := 0) ho0 with ⟨rfl, n, rfl, rfl⟩ | ⟨g, cap, post, rfl, h1, h2, h3, h4, h5⟩
    · refine (OrdN w).mono ?_
      rintro e w' ⟨rfl, p1⟩
      rw [← h]
      exact ⟨_, rfl, Kd.R_mono (R_chg ho0 p1 (fun _ _ h => h)) (fun k hk => .inl hk), below_then hB hB.size (p1.below (B := w.heap.size) (fun k hk => ⟨hk, id⟩)), (p1.mono (fun _ _ h => h.elim)).kept⟩
    · have hg : 3 ≤ g := Nat.le_trans (G_size hG0) h4
      have hgP : P0_ g := hok g rfl
      refine (OrdP w hG g hg post l0 h5 l0.length cap rfl hl h1).mono ?_
      rintro e w' ⟨rfl, p1, p2⟩
      rw [← h]
      have hlen := ordL_len l0
      refine ⟨_, rfl, ?_, p1.below_of hB (fun k hk => by rw [hk]; exact h4), (p1.mono (fun k _ hk => by rw [hk]; exact hgP)).kept⟩
      have := Reg.to_row (ok := fun k_ => (P0_ k_ ∨ w.heap.size ≤ k_)) p2 h4 (.inl hgP) h2 (by rw [hlen]; exact h3)
      rw [hlen] at this
      exact this
end Go.Proofs.YtiggjbclbdikmaaDoor.X
namespace Go.Proofs.YtiggjbclbdikmaaDoor.Clint32
set_option linter.unusedVariables false
set_option linter.unusedSimpArgs false
open Go.RowKit Go.Proofs.YtiggjbclbdikmaaDoorW.PrintWords Go.Proofs.YtiggjbclbdikmaaDoor.Hp
theorem info_e : (Tryd.prog.info? 21).map (fun i => (i.zero, i.size, i.bytes)) = some (some (.int .i32 0), 1, 4) := by kernel_rfl
set_option maxHeartbeats 1000000 in
theorem clone (w : World) (A : Option Addr) (n c : Nat) (xs : List Int) (HR : ReadsInt w .i32 A n xs) (hl : n * 4 ≤ 140737488355328) :
    Calls Tryd.prog 61 #[.slice A n c] w fun e w' => Aside0 (∃ v, e = .returned v ∧ w'.ownsRow w.heap.size 21 1 v xs.length (nums .i32 xs) ∧ Below w.heap.size w w') := by
  have hn := fun w : World => Lib.run_eql_slice_nil (P := Tryd.prog) w 22 21 A n c 0 0 Tryd.underlying22
  cases A with
  | none =>
    have h0 : xs = [] := by
      have h1 := HR.1
      rcases Nat.eq_zero_or_pos n with h2 | h2
      · exact List.eq_nil_of_length_eq_zero (by omega)
      · obtain ⟨ad, h, _⟩ := HR.2.2 h2; cases h
    subst h0
    clear HR hl
    go_enter Tryd.func61, Tryd.ntmps61
    go_wp2
    go_ret
    exact ⟨_, rfl, own_nil _ _ _ _, Below.refl _ _⟩
  | some ad =>
    have hm := HR.2.1
    have hlen := HR.1
    have H := Aside0.mk HR
    clear HR
    go_enter Tryd.func61, Tryd.ntmps61
    have HL := Aside0.mk hlen
    clear hlen
    go_wp2_with (at_builtin; go_must (refine print_append_row (w0 := w) w.heap.size rfl (.tmp 5) (.tmp 6) 22 21 .i32 4 rfl Tryd.underlying22 info_e (by decide) (.slice (some ⟨w.heap.size, 0, none⟩) 0 0) [] xs (some ad) n c rfl rfl ?ho (H.out.below (below_alloc (Below.refl _ _) _)) (below_alloc (Below.refl _ _) _) ?hb ?hl ?hh))
    case ho => exact ⟨rfl, .inr ⟨w.heap.size, 0, #[], rfl, Nat.le_refl _, heap_alloc_new w _, Nat.le_refl _, by simp [maxLen], rfl, rfl⟩⟩
    case hb => simp
    case hl => simp; omega
    case hh =>
      intro v1 w1 hown hb hg hat
      obtain ⟨A1, c1, rfl⟩ := own_slice hown
      have HP := Aside0.mk hown
      clear hat hown
      go_wp2
      go_ret
      exact ⟨_, rfl, by simpa using HP.out, hb⟩
end Go.Proofs.YtiggjbclbdikmaaDoor.Clint32
namespace Go.Proofs.YtiggjbclbdikmaaDoor.Vc
set_option linter.unusedVariables false
set_option linter.unusedSimpArgs false
open Go.RowKit Go.Proofs.YtiggjbclbdikmaaDoorW.PrintWords Go.Proofs.YtiggjbclbdikmaaDoor.Hp Go.Proofs.YtiggjbclbdikmaaDoor.Va
abbrev nmS : ByteArray := ⟨#[103, 97, 99, 116, 109, 98, 112, 100, 114, 113, 118, 101, 111]⟩
def nmL : List Int := [103, 97, 99, 116, 109, 98, 112, 100, 114, 113, 118, 101, 111]
def nmF (c : Int) : List Int → List Int → Int
  | a :: l, m :: t => if a = c then m else nmF c l t
  | _, _ => 0
def nmd (c : Int) : Int := nmF c nmL mksT
theorem nm_ascii : ∀ p : Fin 13, (nmS[p.1]'(p.2)).toNat < 128 ∧ (((nmS[p.1]'(p.2)).toNat : Nat) : Int) = nmL.getD p.1 0 := by decide
theorem nm_next (w : World) (pos : Nat) (h : pos < 13) (ty : TypeId) : (Instr.next (.pointer (some ⟨w.heap.size, 0, none⟩)) true ty).run Tryd.prog (w.iter nmS pos) = .ok (.tuple #[.bool true, .int .i64 pos, .int .i32 (nmL.getD pos 0)]) (w.iter nmS (pos + 1)) := by
  have h1 := nm_ascii ⟨pos, h⟩
  have := run_next_ascii (P := Tryd.prog) w nmS pos ty h h1.1
  rw [h1.2] at this
  exact this
theorem iter_below (w : World) (pos : Nat) : Below w.heap.size w (w.iter nmS pos) := below_alloc (Below.refl _ _) _
theorem iter_pos (w : World) (pos : Nat) : (w.iter nmS pos).iterPos w.heap.size = pos := by simp [World.iterPos, World.iter_heap]
set_option maxRecDepth 100000 in
set_option maxHeartbeats 1000000 in
theorem NamedP (w : World) (hG : G w) (c : Int) (hc : 0 ≤ c ∧ c < 256) : Calls Tryd.prog 89 #[.int .u8 c] w fun e w' => e = .returned (.int .i32 (nmd c)) ∧ Below w.heap.size w w' := by
  have HG := Aside0.mk hG
  clear hG
  have hcv : wrap32 c = c := by unfold wrap32; omega
  go_enter Tryd.func89, Tryd.ntmps89
  go_wp2
  go_loopw [6] (fun _ wr => ∃ pos : Nat, pos ≤ 13 ∧ wr = w.iter nmS pos ∧ Aside0 (nmd c = nmF c (nmL.drop pos) (mksT.drop pos))) (fun _ wr => 13 - wr.iterPos w.heap.size)
  case atStart => exact ⟨0, Nat.zero_le _, rfl, ⟨rfl⟩⟩
  case round =>
    obtain ⟨pos, hp, rfl, HE⟩ := hrel
    by_cases hlt : pos < 13
    · have hnx := nm_next w pos hlt
      have hcell0 : w.cell? ⟨2, 0 + pos, none⟩ = some (.int .i32 (mksT.getD pos 0)) := HG.out.2.2 pos _ (by
        have : pos < mksT.length := hlt
        simp [nums, List.getElem?_eq_getElem this])
      have hcell := ((iter_below w (pos + 1)).cell (World.block_lt_of_cell? w _ hcell0)).trans hcell0
      rw [Nat.zero_add] at hcell
      have he := HE.out
      have hd1 : nmL.drop pos = nmL.getD pos 0 :: nmL.drop (pos + 1) := by
        have h1 : pos < nmL.length := hlt
        rw [List.drop_eq_getElem_cons h1]
        simp [List.getElem?_eq_getElem h1]
      have hd2 : mksT.drop pos = mksT.getD pos 0 :: mksT.drop (pos + 1) := by
        have h1 : pos < mksT.length := hlt
        rw [List.drop_eq_getElem_cons h1]
        simp [List.getElem?_eq_getElem h1]
      rw [hd1, hd2, nmF] at he
      obtain ⟨a, ha⟩ : ∃ a, a = nmL.getD pos 0 := ⟨_, rfl⟩
      obtain ⟨m, hm⟩ : ∃ m, m = mksT.getD pos 0 := ⟨_, rfl⟩
      rw [← ha] at hnx he
      rw [← hm] at hcell he
      have NB := Aside0.mk (iter_below w (pos + 1))
      have MU := Aside0.mk (iter_pos w pos)
      have MU1 := Aside0.mk (iter_pos w (pos + 1))
      clear hcell0 hd1 hd2 ha hm
      by_cases hac : a = c
      · rw [if_pos hac] at he
        have hac2 : (a == c) = true := by simpa using hac
        have HE1 := Aside0.mk he
        clear he hac
        go_wp2
        go_ret
        exact ⟨by rw [HE1.out]; rfl, NB.out⟩
      · rw [if_neg hac] at he
        have hac2 : (a == c) = false := by simpa using hac
        have HE1 := Aside0.mk he
        clear he hac
        go_wp2
        go_roundw
        case rel => exact ⟨pos + 1, by omega, rfl, HE1⟩
        case measure => rw [MU.out, MU1.out]; omega
    · obtain rfl : pos = 13 := by omega
      have hnx := fun ty => run_next_end (P := Tryd.prog) w nmS 13 ty (by decide)
      have HE1 := Aside0.mk (show nmd c = 0 from HE.out)
      have NB := Aside0.mk (iter_below w 13)
      go_wp2
      go_ret
      exact ⟨by rw [HE1.out]; rfl, NB.out⟩
abbrev latL : ByteArray := ⟨#[65, 65, 65, 65, 65, 65, 46, 67, 69, 69, 69, 69, 73, 73, 73, 73, 46, 78, 79, 79, 79, 79, 79, 46, 46, 85, 85, 85, 85, 89, 46, 46, 97, 97, 97, 97, 97, 97, 46, 99, 101, 101, 101, 101, 105, 105, 105, 105, 46, 110, 111, 111, 111, 111, 111, 46, 46, 117, 117, 117, 117, 121, 46, 121]⟩
abbrev latM : ByteArray := ⟨#[103, 97, 99, 116, 100, 114, 46, 101, 103, 97, 99, 100, 103, 97, 99, 100, 46, 116, 103, 97, 99, 116, 100, 46, 46, 103, 97, 99, 100, 97, 46, 46, 103, 97, 99, 116, 100, 114, 46, 101, 103, 97, 99, 100, 103, 97, 99, 100, 46, 116, 103, 97, 99, 116, 100, 46, 46, 103, 97, 99, 100, 97, 46, 100]⟩
abbrev morL : ByteArray := ⟨#[65, 97, 65, 97, 65, 97, 67, 99, 67, 99, 67, 99, 67, 99, 68, 100, 46, 46, 69, 101, 69, 101, 69, 101, 69, 101, 69, 101, 71, 103, 71, 103, 71, 103, 71, 103, 72, 104, 46, 46, 73, 105, 73, 105, 73, 105, 73, 105, 73, 46, 46, 46, 74, 106, 75, 107, 46, 76, 108, 76, 108, 76, 108, 46, 46, 46, 46, 78, 110, 78, 110, 78, 110, 46, 46, 46, 79, 111, 79, 111, 79, 111, 46, 46, 82, 114, 82, 114, 82, 114, 83, 115, 83, 115, 83, 115, 83, 115, 84, 116, 84, 116, 46, 46, 85, 117, 85, 117, 85, 117, 85, 117, 85, 117, 85, 117, 87, 119, 89, 121, 89, 90, 122, 90, 122, 90, 122, 46]⟩
abbrev morM : ByteArray := ⟨#[109, 109, 98, 98, 111, 111, 97, 97, 99, 99, 112, 112, 118, 118, 118, 118, 46, 46, 109, 109, 98, 98, 112, 112, 111, 111, 118, 118, 99, 99, 98, 98, 112, 112, 101, 101, 99, 99, 46, 46, 116, 116, 109, 109, 98, 98, 111, 111, 112, 46, 46, 46, 99, 99, 101, 101, 46, 97, 97, 101, 101, 118, 118, 46, 46, 46, 46, 97, 97, 101, 101, 118, 118, 46, 46, 46, 109, 109, 98, 98, 113, 113, 46, 46, 97, 97, 101, 101, 118, 118, 97, 97, 99, 99, 101, 101, 118, 118, 101, 101, 118, 118, 46, 46, 116, 116, 109, 109, 98, 98, 114, 114, 113, 113, 111, 111, 99, 99, 99, 99, 100, 97, 97, 112, 112, 118, 118, 46]⟩
def byt (s : ByteArray) (i : Nat) : Int := ((s.data.toList.getD i 0).toNat : Int)
theorem byt_range (s : ByteArray) (i : Nat) : 0 ≤ byt s i ∧ byt s i < 256 := by
  unfold byt
  have := UInt8.toNat_lt (s.data.toList.getD i 0)
  omega
def prsF (r : Int) : List (Int × Int × Int) → Int × Int × Int
  | [] => (0, 0, 0)
  | p :: t => if p.1 = r then (if p.2.2 = 0 then (p.2.1, 0, 1) else (p.2.1, p.2.2, 2)) else prsF r t
def ltr (L M : ByteArray) (i : Nat) : Int × Int × Int := if byt L i = 46 then (0, 0, 0) else (byt L i, nmd (byt M i), 2)
def pairU (r : Int) : Int × Int × Int :=
  if 44032 ≤ r ∧ r ≤ 55203 then (if (r - 44032) % 28 = 0 then (4352 + (r - 44032) / 588, 4449 + (r - 44032) % 588 / 28, 2) else (r - (r - 44032) % 28, 4519 + (r - 44032) % 28, 2))
  else if 256 ≤ r ∧ r < 384 then ltr morL morM (r - 256).toNat
  else if r < 192 ∨ 255 < r then prsF r prsT
  else ltr latL latM (r - 192).toNat
theorem idxS (s : ByteArray) (i : Nat) (h : i < s.size) (W : World) : (Instr.index 9 (.string s) (.int .i32 (i : Int))).run Tryd.prog W = .ok (.int .u8 (byt s i)) W := by
  rw [run_index_string W 9 s .i32 (i : Int) Tryd.underlying9, dif_pos ⟨by omega, by omega⟩]
  congr 2
  unfold byt
  have h1 : i < s.data.toList.length := by simpa using h
  simp only [Int.toNat_natCast, List.getD_eq_getElem?_getD, List.getElem?_eq_getElem h1, Option.getD_some]
  rfl
theorem iy0 : ∀ W : World, (Instr.index 106 (.agg (cells3 prsT).toArray) (.int .i64 0)).run Tryd.prog W = .ok (.agg #[.int .i32 (prsT.getD 0 (0, 0, 0)).1, .int .i32 (prsT.getD 0 (0, 0, 0)).2.1, .int .i32 (prsT.getD 0 (0, 0, 0)).2.2]) W := fun _ => by kernel_rfl
theorem iy1 : ∀ W : World, (Instr.index 106 (.agg (cells3 prsT).toArray) (.int .i64 1)).run Tryd.prog W = .ok (.agg #[.int .i32 (prsT.getD 1 (0, 0, 0)).1, .int .i32 (prsT.getD 1 (0, 0, 0)).2.1, .int .i32 (prsT.getD 1 (0, 0, 0)).2.2]) W := fun _ => by kernel_rfl
theorem iy2 : ∀ W : World, (Instr.index 106 (.agg (cells3 prsT).toArray) (.int .i64 2)).run Tryd.prog W = .ok (.agg #[.int .i32 (prsT.getD 2 (0, 0, 0)).1, .int .i32 (prsT.getD 2 (0, 0, 0)).2.1, .int .i32 (prsT.getD 2 (0, 0, 0)).2.2]) W := fun _ => by kernel_rfl
theorem iy3 : ∀ W : World, (Instr.index 106 (.agg (cells3 prsT).toArray) (.int .i64 3)).run Tryd.prog W = .ok (.agg #[.int .i32 (prsT.getD 3 (0, 0, 0)).1, .int .i32 (prsT.getD 3 (0, 0, 0)).2.1, .int .i32 (prsT.getD 3 (0, 0, 0)).2.2]) W := fun _ => by kernel_rfl
theorem iy4 : ∀ W : World, (Instr.index 106 (.agg (cells3 prsT).toArray) (.int .i64 4)).run Tryd.prog W = .ok (.agg #[.int .i32 (prsT.getD 4 (0, 0, 0)).1, .int .i32 (prsT.getD 4 (0, 0, 0)).2.1, .int .i32 (prsT.getD 4 (0, 0, 0)).2.2]) W := fun _ => by kernel_rfl
theorem iy5 : ∀ W : World, (Instr.index 106 (.agg (cells3 prsT).toArray) (.int .i64 5)).run Tryd.prog W = .ok (.agg #[.int .i32 (prsT.getD 5 (0, 0, 0)).1, .int .i32 (prsT.getD 5 (0, 0, 0)).2.1, .int .i32 (prsT.getD 5 (0, 0, 0)).2.2]) W := fun _ => by kernel_rfl
theorem iy6 : ∀ W : World, (Instr.index 106 (.agg (cells3 prsT).toArray) (.int .i64 6)).run Tryd.prog W = .ok (.agg #[.int .i32 (prsT.getD 6 (0, 0, 0)).1, .int .i32 (prsT.getD 6 (0, 0, 0)).2.1, .int .i32 (prsT.getD 6 (0, 0, 0)).2.2]) W := fun _ => by kernel_rfl
theorem iy7 : ∀ W : World, (Instr.index 106 (.agg (cells3 prsT).toArray) (.int .i64 7)).run Tryd.prog W = .ok (.agg #[.int .i32 (prsT.getD 7 (0, 0, 0)).1, .int .i32 (prsT.getD 7 (0, 0, 0)).2.1, .int .i32 (prsT.getD 7 (0, 0, 0)).2.2]) W := fun _ => by kernel_rfl
theorem iy8 : ∀ W : World, (Instr.index 106 (.agg (cells3 prsT).toArray) (.int .i64 8)).run Tryd.prog W = .ok (.agg #[.int .i32 (prsT.getD 8 (0, 0, 0)).1, .int .i32 (prsT.getD 8 (0, 0, 0)).2.1, .int .i32 (prsT.getD 8 (0, 0, 0)).2.2]) W := fun _ => by kernel_rfl
theorem iy9 : ∀ W : World, (Instr.index 106 (.agg (cells3 prsT).toArray) (.int .i64 9)).run Tryd.prog W = .ok (.agg #[.int .i32 (prsT.getD 9 (0, 0, 0)).1, .int .i32 (prsT.getD 9 (0, 0, 0)).2.1, .int .i32 (prsT.getD 9 (0, 0, 0)).2.2]) W := fun _ => by kernel_rfl
theorem iy10 : ∀ W : World, (Instr.index 106 (.agg (cells3 prsT).toArray) (.int .i64 10)).run Tryd.prog W = .ok (.agg #[.int .i32 (prsT.getD 10 (0, 0, 0)).1, .int .i32 (prsT.getD 10 (0, 0, 0)).2.1, .int .i32 (prsT.getD 10 (0, 0, 0)).2.2]) W := fun _ => by kernel_rfl
theorem iy11 : ∀ W : World, (Instr.index 106 (.agg (cells3 prsT).toArray) (.int .i64 11)).run Tryd.prog W = .ok (.agg #[.int .i32 (prsT.getD 11 (0, 0, 0)).1, .int .i32 (prsT.getD 11 (0, 0, 0)).2.1, .int .i32 (prsT.getD 11 (0, 0, 0)).2.2]) W := fun _ => by kernel_rfl
theorem iy12 : ∀ W : World, (Instr.index 106 (.agg (cells3 prsT).toArray) (.int .i64 12)).run Tryd.prog W = .ok (.agg #[.int .i32 (prsT.getD 12 (0, 0, 0)).1, .int .i32 (prsT.getD 12 (0, 0, 0)).2.1, .int .i32 (prsT.getD 12 (0, 0, 0)).2.2]) W := fun _ => by kernel_rfl
theorem iy13 : ∀ W : World, (Instr.index 106 (.agg (cells3 prsT).toArray) (.int .i64 13)).run Tryd.prog W = .ok (.agg #[.int .i32 (prsT.getD 13 (0, 0, 0)).1, .int .i32 (prsT.getD 13 (0, 0, 0)).2.1, .int .i32 (prsT.getD 13 (0, 0, 0)).2.2]) W := fun _ => by kernel_rfl
theorem iy14 : ∀ W : World, (Instr.index 106 (.agg (cells3 prsT).toArray) (.int .i64 14)).run Tryd.prog W = .ok (.agg #[.int .i32 (prsT.getD 14 (0, 0, 0)).1, .int .i32 (prsT.getD 14 (0, 0, 0)).2.1, .int .i32 (prsT.getD 14 (0, 0, 0)).2.2]) W := fun _ => by kernel_rfl
theorem iy15 : ∀ W : World, (Instr.index 106 (.agg (cells3 prsT).toArray) (.int .i64 15)).run Tryd.prog W = .ok (.agg #[.int .i32 (prsT.getD 15 (0, 0, 0)).1, .int .i32 (prsT.getD 15 (0, 0, 0)).2.1, .int .i32 (prsT.getD 15 (0, 0, 0)).2.2]) W := fun _ => by kernel_rfl
theorem iy16 : ∀ W : World, (Instr.index 106 (.agg (cells3 prsT).toArray) (.int .i64 16)).run Tryd.prog W = .ok (.agg #[.int .i32 (prsT.getD 16 (0, 0, 0)).1, .int .i32 (prsT.getD 16 (0, 0, 0)).2.1, .int .i32 (prsT.getD 16 (0, 0, 0)).2.2]) W := fun _ => by kernel_rfl
theorem iy17 : ∀ W : World, (Instr.index 106 (.agg (cells3 prsT).toArray) (.int .i64 17)).run Tryd.prog W = .ok (.agg #[.int .i32 (prsT.getD 17 (0, 0, 0)).1, .int .i32 (prsT.getD 17 (0, 0, 0)).2.1, .int .i32 (prsT.getD 17 (0, 0, 0)).2.2]) W := fun _ => by kernel_rfl
theorem iy18 : ∀ W : World, (Instr.index 106 (.agg (cells3 prsT).toArray) (.int .i64 18)).run Tryd.prog W = .ok (.agg #[.int .i32 (prsT.getD 18 (0, 0, 0)).1, .int .i32 (prsT.getD 18 (0, 0, 0)).2.1, .int .i32 (prsT.getD 18 (0, 0, 0)).2.2]) W := fun _ => by kernel_rfl
theorem iy19 : ∀ W : World, (Instr.index 106 (.agg (cells3 prsT).toArray) (.int .i64 19)).run Tryd.prog W = .ok (.agg #[.int .i32 (prsT.getD 19 (0, 0, 0)).1, .int .i32 (prsT.getD 19 (0, 0, 0)).2.1, .int .i32 (prsT.getD 19 (0, 0, 0)).2.2]) W := fun _ => by kernel_rfl
theorem iy20 : ∀ W : World, (Instr.index 106 (.agg (cells3 prsT).toArray) (.int .i64 20)).run Tryd.prog W = .ok (.agg #[.int .i32 (prsT.getD 20 (0, 0, 0)).1, .int .i32 (prsT.getD 20 (0, 0, 0)).2.1, .int .i32 (prsT.getD 20 (0, 0, 0)).2.2]) W := fun _ => by kernel_rfl
theorem iy21 : ∀ W : World, (Instr.index 106 (.agg (cells3 prsT).toArray) (.int .i64 21)).run Tryd.prog W = .ok (.agg #[.int .i32 (prsT.getD 21 (0, 0, 0)).1, .int .i32 (prsT.getD 21 (0, 0, 0)).2.1, .int .i32 (prsT.getD 21 (0, 0, 0)).2.2]) W := fun _ => by kernel_rfl
theorem iy22 : ∀ W : World, (Instr.index 106 (.agg (cells3 prsT).toArray) (.int .i64 22)).run Tryd.prog W = .ok (.agg #[.int .i32 (prsT.getD 22 (0, 0, 0)).1, .int .i32 (prsT.getD 22 (0, 0, 0)).2.1, .int .i32 (prsT.getD 22 (0, 0, 0)).2.2]) W := fun _ => by kernel_rfl
theorem iy23 : ∀ W : World, (Instr.index 106 (.agg (cells3 prsT).toArray) (.int .i64 23)).run Tryd.prog W = .ok (.agg #[.int .i32 (prsT.getD 23 (0, 0, 0)).1, .int .i32 (prsT.getD 23 (0, 0, 0)).2.1, .int .i32 (prsT.getD 23 (0, 0, 0)).2.2]) W := fun _ => by kernel_rfl
theorem iy24 : ∀ W : World, (Instr.index 106 (.agg (cells3 prsT).toArray) (.int .i64 24)).run Tryd.prog W = .ok (.agg #[.int .i32 (prsT.getD 24 (0, 0, 0)).1, .int .i32 (prsT.getD 24 (0, 0, 0)).2.1, .int .i32 (prsT.getD 24 (0, 0, 0)).2.2]) W := fun _ => by kernel_rfl
theorem iy25 : ∀ W : World, (Instr.index 106 (.agg (cells3 prsT).toArray) (.int .i64 25)).run Tryd.prog W = .ok (.agg #[.int .i32 (prsT.getD 25 (0, 0, 0)).1, .int .i32 (prsT.getD 25 (0, 0, 0)).2.1, .int .i32 (prsT.getD 25 (0, 0, 0)).2.2]) W := fun _ => by kernel_rfl
theorem iy26 : ∀ W : World, (Instr.index 106 (.agg (cells3 prsT).toArray) (.int .i64 26)).run Tryd.prog W = .ok (.agg #[.int .i32 (prsT.getD 26 (0, 0, 0)).1, .int .i32 (prsT.getD 26 (0, 0, 0)).2.1, .int .i32 (prsT.getD 26 (0, 0, 0)).2.2]) W := fun _ => by kernel_rfl
theorem iy27 : ∀ W : World, (Instr.index 106 (.agg (cells3 prsT).toArray) (.int .i64 27)).run Tryd.prog W = .ok (.agg #[.int .i32 (prsT.getD 27 (0, 0, 0)).1, .int .i32 (prsT.getD 27 (0, 0, 0)).2.1, .int .i32 (prsT.getD 27 (0, 0, 0)).2.2]) W := fun _ => by kernel_rfl
theorem iy28 : ∀ W : World, (Instr.index 106 (.agg (cells3 prsT).toArray) (.int .i64 28)).run Tryd.prog W = .ok (.agg #[.int .i32 (prsT.getD 28 (0, 0, 0)).1, .int .i32 (prsT.getD 28 (0, 0, 0)).2.1, .int .i32 (prsT.getD 28 (0, 0, 0)).2.2]) W := fun _ => by kernel_rfl
theorem iy29 : ∀ W : World, (Instr.index 106 (.agg (cells3 prsT).toArray) (.int .i64 29)).run Tryd.prog W = .ok (.agg #[.int .i32 (prsT.getD 29 (0, 0, 0)).1, .int .i32 (prsT.getD 29 (0, 0, 0)).2.1, .int .i32 (prsT.getD 29 (0, 0, 0)).2.2]) W := fun _ => by kernel_rfl
theorem iy30 : ∀ W : World, (Instr.index 106 (.agg (cells3 prsT).toArray) (.int .i64 30)).run Tryd.prog W = .ok (.agg #[.int .i32 (prsT.getD 30 (0, 0, 0)).1, .int .i32 (prsT.getD 30 (0, 0, 0)).2.1, .int .i32 (prsT.getD 30 (0, 0, 0)).2.2]) W := fun _ => by kernel_rfl
theorem idxP (i : Nat) (hi : i < 31) : ∀ W : World, (Instr.index 106 (.agg (cells3 prsT).toArray) (.int .i64 (i : Int))).run Tryd.prog W = .ok (.agg #[.int .i32 (prsT.getD i (0, 0, 0)).1, .int .i32 (prsT.getD i (0, 0, 0)).2.1, .int .i32 (prsT.getD i (0, 0, 0)).2.2]) W := by
  intro W
  match i, hi with
  | 0, _ => exact iy0 W
  | 1, _ => exact iy1 W
  | 2, _ => exact iy2 W
  | 3, _ => exact iy3 W
  | 4, _ => exact iy4 W
  | 5, _ => exact iy5 W
  | 6, _ => exact iy6 W
  | 7, _ => exact iy7 W
  | 8, _ => exact iy8 W
  | 9, _ => exact iy9 W
  | 10, _ => exact iy10 W
  | 11, _ => exact iy11 W
  | 12, _ => exact iy12 W
  | 13, _ => exact iy13 W
  | 14, _ => exact iy14 W
  | 15, _ => exact iy15 W
  | 16, _ => exact iy16 W
  | 17, _ => exact iy17 W
  | 18, _ => exact iy18 W
  | 19, _ => exact iy19 W
  | 20, _ => exact iy20 W
  | 21, _ => exact iy21 W
  | 22, _ => exact iy22 W
  | 23, _ => exact iy23 W
  | 24, _ => exact iy24 W
  | 25, _ => exact iy25 W
  | 26, _ => exact iy26 W
  | 27, _ => exact iy27 W
  | 28, _ => exact iy28 W
  | 29, _ => exact iy29 W
  | 30, _ => exact iy30 W
  | n + 31, h => exact absurd h (by omega)
theorem infoP : (Tryd.prog.info? 106).map (·.size) = some (cells3 prsT).length := by kernel_rfl
def PairPost (w : World) (r : Int) (e : Ending) (w' : World) : Prop := e = .returned (.tuple #[.int .i32 (pairU r).1, .int .i32 (pairU r).2.1, .int .i64 (pairU r).2.2]) ∧ Below w.heap.size w w'
set_option maxRecDepth 100000 in
set_option maxHeartbeats 1000000 in
theorem PairSyl (w : World) (s : Nat) (hs : s ≤ 11171) : Calls Tryd.prog 75 #[.int .i32 (44032 + (s : Int))] w (PairPost w (44032 + (s : Int))) := by
  have d1 : decide ((44032 : Int) ≤ 44032 + (s : Int)) = true := decide_eq_true (by omega)
  have d2 : decide (44032 + (s : Int) ≤ 55203) = true := decide_eq_true (by omega)
  have t1 : (s : Int).tmod 28 = ((s % 28 : Nat) : Int) := by rw [Int.tmod_eq_emod_of_nonneg (by omega)]; omega
  have t2 : (s : Int).tmod 588 = ((s % 588 : Nat) : Int) := by rw [Int.tmod_eq_emod_of_nonneg (by omega)]; omega
  have t3 : (s : Int).tdiv 588 = ((s / 588 : Nat) : Int) := by rw [Int.tdiv_eq_ediv_of_nonneg (by omega)]; omega
  have t4 : ((s % 588 : Nat) : Int).tdiv 28 = ((s % 588 / 28 : Nat) : Int) := by rw [Int.tdiv_eq_ediv_of_nonneg (by omega)]; omega
  have e1 : 44032 + (s : Int) - 44032 = (s : Int) := by omega
  have b1 : s / 588 ≤ 18 := by omega
  have b2 : s % 588 / 28 ≤ 20 := by omega
  have b3 : s % 28 ≤ 27 := by omega
  obtain ⟨x1, hx1⟩ : ∃ x, x = s % 28 := ⟨_, rfl⟩
  obtain ⟨x2, hx2⟩ : ∃ x, x = s % 588 := ⟨_, rfl⟩
  obtain ⟨x3, hx3⟩ : ∃ x, x = s / 588 := ⟨_, rfl⟩
  rw [← hx1] at t1 b3
  rw [← hx2] at t2 t4 b2
  rw [← hx3] at t3 b1
  obtain ⟨x4, hx4⟩ : ∃ x, x = x2 / 28 := ⟨_, rfl⟩
  rw [← hx4] at t4 b2
  have hP : pairU (44032 + (s : Int)) = if x1 = 0 then (4352 + (x3 : Int), 4449 + (x4 : Int), 2) else (44032 + (s : Int) - (x1 : Int), 4519 + (x1 : Int), 2) := by
    unfold pairU
    rw [if_pos ⟨by omega, by omega⟩, e1]
    by_cases h : x1 = 0
    · rw [if_pos (by omega), if_pos h]
      congr 1
      · omega
      · congr 1; omega
    · rw [if_neg (by omega), if_neg h]
      congr 1
      · omega
      · congr 1; omega
  have HP := Aside0.mk hP
  clear hP hx1 hx2 hx3 hx4
  by_cases h : x1 = 0
  · subst h
    go_enter Tryd.func75, Tryd.ntmps75
    go_wp2
    go_ret3
    exact ⟨by rw [HP.out]; rfl, Below.refl _ _⟩
  · have h0 : ((x1 : Int) == 0) = false := by simp; omega
    go_enter Tryd.func75, Tryd.ntmps75
    go_wp2
    go_ret3
    exact ⟨by rw [HP.out, if_neg h]; rfl, Below.refl _ _⟩
set_option maxRecDepth 100000 in
set_option maxHeartbeats 1000000 in
theorem PairLat (w : World) (hG : G w) (i : Nat) (hi : i < 64) : Calls Tryd.prog 75 #[.int .i32 (192 + (i : Int))] w (PairPost w (192 + (i : Int))) := by
  have HG := Aside0.mk hG
  clear hG
  have d1 : decide ((44032 : Int) ≤ 192 + (i : Int)) = false := decide_eq_false (by omega)
  have d2 : decide ((256 : Int) ≤ 192 + (i : Int)) = false := decide_eq_false (by omega)
  have d3 : decide (192 + (i : Int) < 192) = false := decide_eq_false (by omega)
  have d4 : decide ((255 : Int) < 192 + (i : Int)) = false := decide_eq_false (by omega)
  have e1 : 192 + (i : Int) - 192 = (i : Int) := by omega
  have hP : pairU (192 + (i : Int)) = ltr latL latM i := by
    unfold pairU
    rw [if_neg (by omega), if_neg (by omega), if_neg (by omega), e1, Int.toNat_natCast]
  have hix := idxS latL i hi
  have hiy := idxS latM i hi
  have hmr := byt_range latM i
  have har := byt_range latL i
  obtain ⟨a, ha⟩ : ∃ a, a = byt latL i := ⟨_, rfl⟩
  obtain ⟨m, hm⟩ : ∃ m, m = byt latM i := ⟨_, rfl⟩
  rw [← ha] at hix har
  rw [← hm] at hiy hmr
  have hwa : IntKind.i32.wrap a = a := by rw [IntKind.wrap_i32]; omega
  unfold latL at hix
  unfold latM at hiy
  by_cases h : a = 46
  · have h0 : (a == 46) = true := by simpa using h
    have HP := Aside0.mk (show pairU (192 + (i : Int)) = (0, 0, 0) by rw [hP]; unfold ltr; rw [if_pos (by rw [← ha]; exact h)])
    clear hP ha h hm
    go_enter Tryd.func75, Tryd.ntmps75
    go_wp2
    go_ret3
    exact ⟨by rw [HP.out]; rfl, Below.refl _ _⟩
  · have h0 : (a == 46) = false := by simpa using h
    have HP := Aside0.mk (show pairU (192 + (i : Int)) = (a, nmd m, 2) by rw [hP]; unfold ltr; rw [if_neg (by rw [← ha]; exact h), ← ha, ← hm])
    clear hP ha h hm
    go_enter Tryd.func75, Tryd.ntmps75
    go_upto_region 21 with (fail)
    refine wp_region_held_drew (S := fun W => Below w.heap.size w W) (by kernel_rfl) (((Drawn0.refl w).step 1).below) (fun hS => ?_)
    refine wpAnyH_take (i := 0) (oi := { dst := some 78, op := _, type := _, pos := _, after := _, guard := _ }) (v := .string latL) rfl (by kernel_rfl) (by kernel_rfl) (by kernel_rfl) (fun _ _ _ h => h) (Or.inl ⟨by rfl, fun W hW => ?_⟩) hS ?_
    · (go_simp)
    try simp only [Act.put, List.setIfInBounds_toArray, List.set_cons_zero, List.set_cons_succ]
    refine wpAnyH_take (i := 1) (oi := { dst := some 79, op := _, type := _, pos := _, after := _, guard := _ }) (v := .int .i32 (i : Int)) rfl (by kernel_rfl) (by kernel_rfl) (by kernel_rfl) (fun _ _ _ h => h) (Or.inl ⟨by rfl, fun W hW => ?_⟩) hS ?_
    · (go_simp)
    try simp only [Act.put, List.setIfInBounds_toArray, List.set_cons_zero, List.set_cons_succ]
    refine wpAnyH_take (i := 2) (oi := { dst := some 80, op := _, type := _, pos := _, after := _, guard := _ }) (v := .int .u8 a) rfl (by kernel_rfl) (by kernel_rfl) (by kernel_rfl) (fun _ _ _ h => h) (Or.inl ⟨by rfl, fun W hW => ?_⟩) hS ?_
    · (have h := hix W; go_simp)
    try simp only [Act.put, List.setIfInBounds_toArray, List.set_cons_zero, List.set_cons_succ]
    refine wpAnyH_take (i := 3) (oi := { dst := some 81, op := _, type := _, pos := _, after := _, guard := _ }) (v := .int .i32 a) rfl (by kernel_rfl) (by kernel_rfl) (by kernel_rfl) (fun _ _ _ h => h) (Or.inl ⟨by rfl, fun W hW => ?_⟩) hS ?_
    · (go_simp)
    try simp only [Act.put, List.setIfInBounds_toArray, List.set_cons_zero, List.set_cons_succ]
    refine wpAnyH_take (i := 4) (oi := { dst := some 82, op := _, type := _, pos := _, after := _, guard := _ }) (v := .string latM) rfl (by kernel_rfl) (by kernel_rfl) (by kernel_rfl) (fun _ _ _ h => h) (Or.inl ⟨by rfl, fun W hW => ?_⟩) hS ?_
    · (go_simp)
    try simp only [Act.put, List.setIfInBounds_toArray, List.set_cons_zero, List.set_cons_succ]
    refine wpAnyH_take (i := 5) (oi := { dst := some 83, op := _, type := _, pos := _, after := _, guard := _ }) (v := .int .i32 (i : Int)) rfl (by kernel_rfl) (by kernel_rfl) (by kernel_rfl) (fun _ _ _ h => h) (Or.inl ⟨by rfl, fun W hW => ?_⟩) hS ?_
    · (go_simp)
    try simp only [Act.put, List.setIfInBounds_toArray, List.set_cons_zero, List.set_cons_succ]
    refine wpAnyH_take (i := 6) (oi := { dst := some 84, op := _, type := _, pos := _, after := _, guard := _ }) (v := .int .u8 m) rfl (by kernel_rfl) (by kernel_rfl) (by kernel_rfl) (fun _ _ _ h => h) (Or.inl ⟨by rfl, fun W hW => ?_⟩) hS ?_
    · (have h := hiy W; go_simp)
    try simp only [Act.put, List.setIfInBounds_toArray, List.set_cons_zero, List.set_cons_succ]
    refine wpAnyH_ready (rs := [7]) (by kernel_rfl) (by simp) ?_
    refine AllReadyH.cons (o := { dst := some 85, op := _, type := _, pos := _, after := _, guard := _ }) rfl (fun K hK => ?_) AllReadyH.nil
    go_simp
    (go_at_call 89)
    refine (NamedP w.drew (HG.out.below hS) m hmr).mono ?_
    rintro e w5 ⟨rfl, p1⟩
    have hS2 := below_then hS hS.size p1
    go_wp2_with fail
    refine hK.out _ _ hS2 (fun hS3 => ?_)
    clear hK K hS p1 hS3
    have hS := hS2
    clear hS2
    try simp only [Act.put, List.setIfInBounds_toArray, List.set_cons_zero, List.set_cons_succ]
    refine wpAnyH_take (i := 8) (oi := { dst := some 2, op := _, type := _, pos := _, after := _, guard := _ }) (v := .int .i32 a) rfl (by kernel_rfl) (by kernel_rfl) (by kernel_rfl) (fun _ _ _ h => h) (Or.inl ⟨by rfl, fun W hW => ?_⟩) hS ?_
    · (go_simp)
    try simp only [Act.put, List.setIfInBounds_toArray, List.set_cons_zero, List.set_cons_succ]
    refine wpAnyH_take (i := 9) (oi := { dst := some 3, op := _, type := _, pos := _, after := _, guard := _ }) (v := .int .i32 (nmd m)) rfl (by kernel_rfl) (by kernel_rfl) (by kernel_rfl) (fun _ _ _ h => h) (Or.inl ⟨by rfl, fun W hW => ?_⟩) hS ?_
    · (go_simp)
    try simp only [Act.put, List.setIfInBounds_toArray, List.set_cons_zero, List.set_cons_succ]
    refine wpAnyH_take (i := 10) (oi := { dst := some 4, op := _, type := _, pos := _, after := _, guard := _ }) (v := .int .i64 2) rfl (by kernel_rfl) (by kernel_rfl) (by kernel_rfl) (fun _ _ _ h => h) (Or.inl ⟨by rfl, fun W hW => ?_⟩) hS ?_
    · (go_simp)
    try simp only [Act.put, List.setIfInBounds_toArray, List.set_cons_zero, List.set_cons_succ]
    refine wpAnyH_done (by kernel_rfl) ?_ _
    go_wp2
    go_ret3
    exact ⟨by rw [HP.out]; rfl, hS⟩
set_option maxRecDepth 100000 in
set_option maxHeartbeats 1000000 in
theorem PairMor (w : World) (hG : G w) (i : Nat) (hi : i < 128) : Calls Tryd.prog 75 #[.int .i32 (256 + (i : Int))] w (PairPost w (256 + (i : Int))) := by
  have HG := Aside0.mk hG
  clear hG
  have d1 : decide ((44032 : Int) ≤ 256 + (i : Int)) = false := decide_eq_false (by omega)
  have d2 : decide ((256 : Int) ≤ 256 + (i : Int)) = true := decide_eq_true (by omega)
  have d3 : decide (256 + (i : Int) < 384) = true := decide_eq_true (by omega)
  have e1 : 256 + (i : Int) - 256 = (i : Int) := by omega
  have hP : pairU (256 + (i : Int)) = ltr morL morM i := by
    unfold pairU
    rw [if_neg (by omega), if_pos (by omega), e1, Int.toNat_natCast]
  have hix := idxS morL i hi
  have hiy := idxS morM i hi
  have hmr := byt_range morM i
  have har := byt_range morL i
  obtain ⟨a, ha⟩ : ∃ a, a = byt morL i := ⟨_, rfl⟩
  obtain ⟨m, hm⟩ : ∃ m, m = byt morM i := ⟨_, rfl⟩
  rw [← ha] at hix har
  rw [← hm] at hiy hmr
  have hwa : IntKind.i32.wrap a = a := by rw [IntKind.wrap_i32]; omega
  unfold morL at hix
  unfold morM at hiy
  by_cases h : a = 46
  · have h0 : (a == 46) = true := by simpa using h
    have HP := Aside0.mk (show pairU (256 + (i : Int)) = (0, 0, 0) by rw [hP]; unfold ltr; rw [if_pos (by rw [← ha]; exact h)])
    clear hP ha h hm
    go_enter Tryd.func75, Tryd.ntmps75
    go_wp2
    go_ret3
    exact ⟨by rw [HP.out]; rfl, Below.refl _ _⟩
  · have h0 : (a == 46) = false := by simpa using h
    have HP := Aside0.mk (show pairU (256 + (i : Int)) = (a, nmd m, 2) by rw [hP]; unfold ltr; rw [if_neg (by rw [← ha]; exact h), ← ha, ← hm])
    clear hP ha h hm
    go_enter Tryd.func75, Tryd.ntmps75
    go_upto_region 21 with (fail)
    refine wp_region_held_drew (S := fun W => Below w.heap.size w W) (by kernel_rfl) (((Drawn0.refl w).step 1).below) (fun hS => ?_)
    refine wpAnyH_take (i := 0) (oi := { dst := some 78, op := _, type := _, pos := _, after := _, guard := _ }) (v := .string morL) rfl (by kernel_rfl) (by kernel_rfl) (by kernel_rfl) (fun _ _ _ h => h) (Or.inl ⟨by rfl, fun W hW => ?_⟩) hS ?_
    · (go_simp)
    try simp only [Act.put, List.setIfInBounds_toArray, List.set_cons_zero, List.set_cons_succ]
    refine wpAnyH_take (i := 1) (oi := { dst := some 79, op := _, type := _, pos := _, after := _, guard := _ }) (v := .int .i32 (i : Int)) rfl (by kernel_rfl) (by kernel_rfl) (by kernel_rfl) (fun _ _ _ h => h) (Or.inl ⟨by rfl, fun W hW => ?_⟩) hS ?_
    · (go_simp)
    try simp only [Act.put, List.setIfInBounds_toArray, List.set_cons_zero, List.set_cons_succ]
    refine wpAnyH_take (i := 2) (oi := { dst := some 80, op := _, type := _, pos := _, after := _, guard := _ }) (v := .int .u8 a) rfl (by kernel_rfl) (by kernel_rfl) (by kernel_rfl) (fun _ _ _ h => h) (Or.inl ⟨by rfl, fun W hW => ?_⟩) hS ?_
    · (have h := hix W; go_simp)
    try simp only [Act.put, List.setIfInBounds_toArray, List.set_cons_zero, List.set_cons_succ]
    refine wpAnyH_take (i := 3) (oi := { dst := some 81, op := _, type := _, pos := _, after := _, guard := _ }) (v := .int .i32 a) rfl (by kernel_rfl) (by kernel_rfl) (by kernel_rfl) (fun _ _ _ h => h) (Or.inl ⟨by rfl, fun W hW => ?_⟩) hS ?_
    · (go_simp)
    try simp only [Act.put, List.setIfInBounds_toArray, List.set_cons_zero, List.set_cons_succ]
    refine wpAnyH_take (i := 4) (oi := { dst := some 82, op := _, type := _, pos := _, after := _, guard := _ }) (v := .string morM) rfl (by kernel_rfl) (by kernel_rfl) (by kernel_rfl) (fun _ _ _ h => h) (Or.inl ⟨by rfl, fun W hW => ?_⟩) hS ?_
    · (go_simp)
    try simp only [Act.put, List.setIfInBounds_toArray, List.set_cons_zero, List.set_cons_succ]
    refine wpAnyH_take (i := 5) (oi := { dst := some 83, op := _, type := _, pos := _, after := _, guard := _ }) (v := .int .i32 (i : Int)) rfl (by kernel_rfl) (by kernel_rfl) (by kernel_rfl) (fun _ _ _ h => h) (Or.inl ⟨by rfl, fun W hW => ?_⟩) hS ?_
    · (go_simp)
    try simp only [Act.put, List.setIfInBounds_toArray, List.set_cons_zero, List.set_cons_succ]
    refine wpAnyH_take (i := 6) (oi := { dst := some 84, op := _, type := _, pos := _, after := _, guard := _ }) (v := .int .u8 m) rfl (by kernel_rfl) (by kernel_rfl) (by kernel_rfl) (fun _ _ _ h => h) (Or.inl ⟨by rfl, fun W hW => ?_⟩) hS ?_
    · (have h := hiy W; go_simp)
    try simp only [Act.put, List.setIfInBounds_toArray, List.set_cons_zero, List.set_cons_succ]
    refine wpAnyH_ready (rs := [7]) (by kernel_rfl) (by simp) ?_
    refine AllReadyH.cons (o := { dst := some 85, op := _, type := _, pos := _, after := _, guard := _ }) rfl (fun K hK => ?_) AllReadyH.nil
    go_simp
    (go_at_call 89)
    refine (NamedP w.drew (HG.out.below hS) m hmr).mono ?_
    rintro e w5 ⟨rfl, p1⟩
    have hS2 := below_then hS hS.size p1
    go_wp2_with fail
    refine hK.out _ _ hS2 (fun hS3 => ?_)
    clear hK K hS p1 hS3
    have hS := hS2
    clear hS2
    try simp only [Act.put, List.setIfInBounds_toArray, List.set_cons_zero, List.set_cons_succ]
    refine wpAnyH_take (i := 8) (oi := { dst := some 2, op := _, type := _, pos := _, after := _, guard := _ }) (v := .int .i32 a) rfl (by kernel_rfl) (by kernel_rfl) (by kernel_rfl) (fun _ _ _ h => h) (Or.inl ⟨by rfl, fun W hW => ?_⟩) hS ?_
    · (go_simp)
    try simp only [Act.put, List.setIfInBounds_toArray, List.set_cons_zero, List.set_cons_succ]
    refine wpAnyH_take (i := 9) (oi := { dst := some 3, op := _, type := _, pos := _, after := _, guard := _ }) (v := .int .i32 (nmd m)) rfl (by kernel_rfl) (by kernel_rfl) (by kernel_rfl) (fun _ _ _ h => h) (Or.inl ⟨by rfl, fun W hW => ?_⟩) hS ?_
    · (go_simp)
    try simp only [Act.put, List.setIfInBounds_toArray, List.set_cons_zero, List.set_cons_succ]
    refine wpAnyH_take (i := 10) (oi := { dst := some 4, op := _, type := _, pos := _, after := _, guard := _ }) (v := .int .i64 2) rfl (by kernel_rfl) (by kernel_rfl) (by kernel_rfl) (fun _ _ _ h => h) (Or.inl ⟨by rfl, fun W hW => ?_⟩) hS ?_
    · (go_simp)
    try simp only [Act.put, List.setIfInBounds_toArray, List.set_cons_zero, List.set_cons_succ]
    refine wpAnyH_done (by kernel_rfl) ?_ _
    go_wp2
    go_ret3
    exact ⟨by rw [HP.out]; rfl, hS⟩
set_option maxRecDepth 100000 in
set_option maxHeartbeats 1000000 in
theorem PairTab (w : World) (hG : G w) (r : Int) (hr5 : -2147483648 ≤ r ∧ r ≤ 2147483647) (h1 : ¬ (44032 ≤ r ∧ r ≤ 55203)) (h2 : ¬ (256 ≤ r ∧ r < 384)) (h3 : r < 192 ∨ 255 < r) : Calls Tryd.prog 75 #[.int .i32 r] w (PairPost w r) := by
  have hP : pairU r = prsF r prsT := by unfold pairU; rw [if_neg h1, if_neg h2, if_pos h3]
  obtain ⟨tl, htl⟩ : ∃ tl, tl = cells3 prsT := ⟨_, rfl⟩
  have HT := Aside0.mk (show w.rangeAt 1 0 tl by rw [htl]; exact hG.2.1)
  have HI := Aside0.mk (show (Tryd.prog.info? 106).map (·.size) = some tl.length by rw [htl]; exact infoP)
  have HX := Aside0.mk (show ∀ i : Nat, i < 31 → ∀ W : World, (Instr.index 106 (.agg tl.toArray) (.int .i64 (i : Int))).run Tryd.prog W = .ok (.agg #[.int .i32 (prsT.getD i (0, 0, 0)).1, .int .i32 (prsT.getD i (0, 0, 0)).2.1, .int .i32 (prsT.getD i (0, 0, 0)).2.2]) W by rw [htl]; exact idxP)
  have HP := Aside0.mk hP
  clear hG htl hP
  have hu43 := Tryd.underlying99
  have hcase : r < 192 ∨ (384 ≤ r ∧ r < 44032) ∨ 55203 < r := by omega
  clear h1 h2 h3
  rcases hcase with h1 | ⟨h1, h2⟩ | h1
  · have d1 : decide (44032 ≤ r) = false := decide_eq_false (by omega)
    have d2 : decide (256 ≤ r) = false := decide_eq_false (by omega)
    have d3 : decide (r < 192) = true := decide_eq_true (by omega)
    go_enter Tryd.func75, Tryd.ntmps75
    go_wp2_with (refine wpList_load_mid rfl 106 (.global 1) rfl 1 0 rfl tl _ HT.out Tryd.underlying106 rfl HI.out ?_)
    go_loopw [57] (fun iv wr => ∃ i : Nat, i ≤ 31 ∧ iv = .int .i64 i ∧ Aside0 (pairU r = prsF r (prsT.drop i)) ∧ Aside0 (Below w.heap.size w wr)) (fun iv _ => 31 - (intOf iv).toNat)
    case atStart => exact ⟨0, Nat.zero_le _, rfl, ⟨HP.out⟩, ⟨Below.refl _ _⟩⟩
    case round =>
      obtain ⟨i, hi, rfl, HE, HB⟩ := hrel
      by_cases hlt : i < 31
      · have hd : decide ((i : Int) < 31) = true := decide_eq_true (by omega)
        have hix := HX.out i hlt
        have he := HE.out
        have hdr : prsT.drop i = prsT.getD i (0, 0, 0) :: prsT.drop (i + 1) := by
          have h1 : i < prsT.length := hlt
          rw [List.drop_eq_getElem_cons h1, List.getD_eq_getElem?_getD, List.getElem?_eq_getElem h1]
          rfl
        rw [hdr, prsF] at he
        obtain ⟨⟨a, b, c⟩, hp⟩ : ∃ p, p = prsT.getD i (0, 0, 0) := ⟨_, rfl⟩
        rw [← hp] at hix he
        simp only at hix he
        clear hp hdr
        have NB := Aside0.mk (show Below w.heap.size w (wr.alloc (.cells #[.int .i32 a, .int .i32 b, .int .i32 c] 99)) from below_then HB.out HB.out.size (below_alloc (Below.refl _ _) _))
        by_cases ha : a = r
        · have ha1 : (a == r) = true := by simpa using ha
          rw [if_pos ha] at he
          by_cases hc : c = 0
          · have hc1 : (c == 0) = true := by simpa using hc
            rw [if_pos hc] at he
            have HE1 := Aside0.mk he
            clear he ha hc
            go_wp2
            go_ret3
            exact ⟨by rw [HE1.out]; rfl, NB.out⟩
          · have hc1 : (c == 0) = false := by simpa using hc
            rw [if_neg hc] at he
            have HE1 := Aside0.mk he
            clear he ha hc
            go_wp2
            go_quiet (fail)
            go_wp2
            go_ret3
            exact ⟨by rw [HE1.out]; rfl, below_then NB.out NB.out.size ((Drawn0.refl _).step nq).below⟩
        · have ha1 : (a == r) = false := by simpa using ha
          rw [if_neg ha] at he
          have HE1 := Aside0.mk he
          clear he ha
          go_wp2
          go_roundw
          case rel => exact ⟨i + 1, by omega, by go_num, HE1, NB⟩
          case measure => simp [intOf]; omega
      · have hd : decide ((i : Int) < 31) = false := decide_eq_false (by omega)
        obtain rfl : i = 31 := by omega
        have HE1 := Aside0.mk (show pairU r = (0, 0, 0) from HE.out)
        go_wp2
        go_ret3
        exact ⟨by rw [HE1.out]; rfl, HB.out⟩
  · have d1 : decide (44032 ≤ r) = false := decide_eq_false (by omega)
    have d2 : decide (256 ≤ r) = true := decide_eq_true (by omega)
    have d3 : decide (r < 384) = false := decide_eq_false (by omega)
    have d4 : decide (r < 192) = false := decide_eq_false (by omega)
    have d5 : decide (255 < r) = true := decide_eq_true (by omega)
    go_enter Tryd.func75, Tryd.ntmps75
    go_wp2_with (refine wpList_load_mid rfl 106 (.global 1) rfl 1 0 rfl tl _ HT.out Tryd.underlying106 rfl HI.out ?_)
    go_loopw [57] (fun iv wr => ∃ i : Nat, i ≤ 31 ∧ iv = .int .i64 i ∧ Aside0 (pairU r = prsF r (prsT.drop i)) ∧ Aside0 (Below w.heap.size w wr)) (fun iv _ => 31 - (intOf iv).toNat)
    case atStart => exact ⟨0, Nat.zero_le _, rfl, ⟨HP.out⟩, ⟨Below.refl _ _⟩⟩
    case round =>
      obtain ⟨i, hi, rfl, HE, HB⟩ := hrel
      by_cases hlt : i < 31
      · have hd : decide ((i : Int) < 31) = true := decide_eq_true (by omega)
        have hix := HX.out i hlt
        have he := HE.out
        have hdr : prsT.drop i = prsT.getD i (0, 0, 0) :: prsT.drop (i + 1) := by
          have h1 : i < prsT.length := hlt
          rw [List.drop_eq_getElem_cons h1, List.getD_eq_getElem?_getD, List.getElem?_eq_getElem h1]
          rfl
        rw [hdr, prsF] at he
        obtain ⟨⟨a, b, c⟩, hp⟩ : ∃ p, p = prsT.getD i (0, 0, 0) := ⟨_, rfl⟩
        rw [← hp] at hix he
        simp only at hix he
        clear hp hdr
        have NB := Aside0.mk (show Below w.heap.size w (wr.alloc (.cells #[.int .i32 a, .int .i32 b, .int .i32 c] 99)) from below_then HB.out HB.out.size (below_alloc (Below.refl _ _) _))
        by_cases ha : a = r
        · have ha1 : (a == r) = true := by simpa using ha
          rw [if_pos ha] at he
          by_cases hc : c = 0
          · have hc1 : (c == 0) = true := by simpa using hc
            rw [if_pos hc] at he
            have HE1 := Aside0.mk he
            clear he ha hc
            go_wp2
            go_ret3
            exact ⟨by rw [HE1.out]; rfl, NB.out⟩
          · have hc1 : (c == 0) = false := by simpa using hc
            rw [if_neg hc] at he
            have HE1 := Aside0.mk he
            clear he ha hc
            go_wp2
            go_quiet (fail)
            go_wp2
            go_ret3
            exact ⟨by rw [HE1.out]; rfl, below_then NB.out NB.out.size ((Drawn0.refl _).step nq).below⟩
        · have ha1 : (a == r) = false := by simpa using ha
          rw [if_neg ha] at he
          have HE1 := Aside0.mk he
          clear he ha
          go_wp2
          go_roundw
          case rel => exact ⟨i + 1, by omega, by go_num, HE1, NB⟩
          case measure => simp [intOf]; omega
      · have hd : decide ((i : Int) < 31) = false := decide_eq_false (by omega)
        obtain rfl : i = 31 := by omega
        have HE1 := Aside0.mk (show pairU r = (0, 0, 0) from HE.out)
        go_wp2
        go_ret3
        exact ⟨by rw [HE1.out]; rfl, HB.out⟩
  · have d1 : decide (44032 ≤ r) = true := decide_eq_true (by omega)
    have d0 : decide (r ≤ 55203) = false := decide_eq_false (by omega)
    have d2 : decide (256 ≤ r) = true := decide_eq_true (by omega)
    have d3 : decide (r < 384) = false := decide_eq_false (by omega)
    have d4 : decide (r < 192) = false := decide_eq_false (by omega)
    have d5 : decide (255 < r) = true := decide_eq_true (by omega)
    go_enter Tryd.func75, Tryd.ntmps75
    go_wp2_with (refine wpList_load_mid rfl 106 (.global 1) rfl 1 0 rfl tl _ HT.out Tryd.underlying106 rfl HI.out ?_)
    go_loopw [57] (fun iv wr => ∃ i : Nat, i ≤ 31 ∧ iv = .int .i64 i ∧ Aside0 (pairU r = prsF r (prsT.drop i)) ∧ Aside0 (Below w.heap.size w wr)) (fun iv _ => 31 - (intOf iv).toNat)
    case atStart => exact ⟨0, Nat.zero_le _, rfl, ⟨HP.out⟩, ⟨Below.refl _ _⟩⟩
    case round =>
      obtain ⟨i, hi, rfl, HE, HB⟩ := hrel
      by_cases hlt : i < 31
      · have hd : decide ((i : Int) < 31) = true := decide_eq_true (by omega)
        have hix := HX.out i hlt
        have he := HE.out
        have hdr : prsT.drop i = prsT.getD i (0, 0, 0) :: prsT.drop (i + 1) := by
          have h1 : i < prsT.length := hlt
          rw [List.drop_eq_getElem_cons h1, List.getD_eq_getElem?_getD, List.getElem?_eq_getElem h1]
          rfl
        rw [hdr, prsF] at he
        obtain ⟨⟨a, b, c⟩, hp⟩ : ∃ p, p = prsT.getD i (0, 0, 0) := ⟨_, rfl⟩
        rw [← hp] at hix he
        simp only at hix he
        clear hp hdr
        have NB := Aside0.mk (show Below w.heap.size w (wr.alloc (.cells #[.int .i32 a, .int .i32 b, .int .i32 c] 99)) from below_then HB.out HB.out.size (below_alloc (Below.refl _ _) _))
        by_cases ha : a = r
        · have ha1 : (a == r) = true := by simpa using ha
          rw [if_pos ha] at he
          by_cases hc : c = 0
          · have hc1 : (c == 0) = true := by simpa using hc
            rw [if_pos hc] at he
            have HE1 := Aside0.mk he
            clear he ha hc
            go_wp2
            go_ret3
            exact ⟨by rw [HE1.out]; rfl, NB.out⟩
          · have hc1 : (c == 0) = false := by simpa using hc
            rw [if_neg hc] at he
            have HE1 := Aside0.mk he
            clear he ha hc
            go_wp2
            go_quiet (fail)
            go_wp2
            go_ret3
            exact ⟨by rw [HE1.out]; rfl, below_then NB.out NB.out.size ((Drawn0.refl _).step nq).below⟩
        · have ha1 : (a == r) = false := by simpa using ha
          rw [if_neg ha] at he
          have HE1 := Aside0.mk he
          clear he ha
          go_wp2
          go_roundw
          case rel => exact ⟨i + 1, by omega, by go_num, HE1, NB⟩
          case measure => simp [intOf]; omega
      · have hd : decide ((i : Int) < 31) = false := decide_eq_false (by omega)
        obtain rfl : i = 31 := by omega
        have HE1 := Aside0.mk (show pairU r = (0, 0, 0) from HE.out)
        go_wp2
        go_ret3
        exact ⟨by rw [HE1.out]; rfl, HB.out⟩
theorem PairP (w : World) (hG : G w) (r : Int) (hr : -2147483648 ≤ r ∧ r ≤ 2147483647) : Calls Tryd.prog 75 #[.int .i32 r] w (PairPost w r) := by
  by_cases h1 : 44032 ≤ r ∧ r ≤ 55203
  · have := PairSyl w (r - 44032).toNat (by omega)
    rw [show 44032 + ((r - 44032).toNat : Int) = r by omega] at this
    exact this
  · by_cases h2 : 256 ≤ r ∧ r < 384
    · have := PairMor w hG (r - 256).toNat (by omega)
      rw [show 256 + ((r - 256).toNat : Int) = r by omega] at this
      exact this
    · by_cases h3 : r < 192 ∨ 255 < r
      · exact PairTab w hG r hr h1 h2 h3
      · have := PairLat w hG (r - 192).toNat (by omega)
        rw [show 192 + ((r - 192).toNat : Int) = r by omega] at this
        exact this
end Go.Proofs.YtiggjbclbdikmaaDoor.Vc
namespace Go.Proofs.YtiggjbclbdikmaaDoor.X
open Go.RowKit Go.Proofs.YtiggjbclbdikmaaDoorW.PrintWords
def ucd_Pair.f (a0 : Int) : Option (Int × Int × Int) := if -2147483648 ≤ a0 ∧ a0 ≤ 2147483647 then some (Vc.pairU a0) else none
theorem ucd_Pair.calls (a0 : Int) (r1 r2 r3 : Int) (w : World) (h : ucd_Pair.f a0 = some (r1, r2, r3)) (hG0 : Va.G w) : Calls Tryd.prog 75 #[.int .i32 a0] w fun e w' => e = .returned (.tuple #[.int .i32 r1, .int .i32 r2, .int .i64 r3]) ∧ Below w.heap.size w w' := by
  unfold ucd_Pair.f at h
  split at h
  · rename_i hr
    have e := Option.some.inj h
    have := Vc.PairP w hG0 a0 hr
    unfold Vc.PairPost at this
    rw [e] at this
    exact this
  · cases h
end Go.Proofs.YtiggjbclbdikmaaDoor.X
