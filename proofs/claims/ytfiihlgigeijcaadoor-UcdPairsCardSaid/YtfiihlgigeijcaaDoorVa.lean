/-
  The tables; ucd.Class walked.
-/
import Derived.Test.YtfiihlgigeijcaaDoorProg
import Derived.Test.YtfiihlgigeijcaaDoorHp
import Derived.Deep.MidRow
import Derived.WalkKit
import Derived.WalkSpells
import Derived.WalkLawsBesides
import Derived.Deep.QuietTactic
namespace Go.Proofs.YtfiihlgigeijcaaDoor.Va
set_option linter.unusedVariables false
set_option linter.unusedSimpArgs false
open Go.RowKit Go.Proofs.YtfiihlgigeijcaaDoorW.PrintWords Go.Proofs.YtfiihlgigeijcaaDoor.Hp

def clsT : List (Int × Int × Int) := [(768, 788, 230), (789, 789, 232), (790, 793, 220), (794, 794, 232), (795, 795, 216), (796, 800, 220), (801, 802, 202), (803, 806, 220), (807, 808, 202), (809, 819, 220), (820, 824, 1), (825, 828, 220), (829, 836, 230), (837, 837, 240), (838, 838, 230), (839, 841, 220), (842, 844, 230), (845, 846, 220), (848, 850, 230), (851, 854, 220), (855, 855, 230), (8400, 8401, 230), (12441, 12442, 8)]
def prsT : List (Int × Int × Int) := [(469, 220, 772), (470, 252, 772), (832, 768, 0), (833, 769, 0), (835, 787, 0), (836, 776, 769), (902, 913, 769), (912, 970, 769), (940, 945, 769), (943, 953, 769), (970, 953, 776), (972, 959, 769), (7691, 100, 775), (7693, 100, 803), (7777, 115, 775), (7779, 115, 803), (7785, 7779, 775), (7841, 97, 803), (7844, 194, 769), (7845, 226, 769), (7863, 7841, 774), (7865, 101, 803), (7879, 7865, 770), (8049, 940, 0), (8115, 945, 837), (8486, 937, 0), (8490, 75, 0), (8491, 197, 0), (8800, 61, 824), (12364, 12363, 12441), (12497, 12495, 12442)]
def mksT : List Int := [768, 769, 770, 771, 772, 774, 775, 776, 778, 779, 780, 807, 808]
def cells3 (l : List (Int × Int × Int)) : List Value := l.flatMap fun p => [.int .i32 p.1, .int .i32 p.2.1, .int .i32 p.2.2]
/-- What the package's variables hold. -/
def G (W : World) : Prop := W.rangeAt 0 0 (cells3 clsT) ∧ W.rangeAt 1 0 (cells3 prsT) ∧ W.rangeAt 2 0 (nums .i32 mksT)
theorem range_below {w W : World} {b o : Nat} {cs : List Value} (h : w.rangeAt b o cs) (hb : Below w.heap.size w W) : W.rangeAt b o cs := fun j v hv => (hb.cell (World.block_lt_of_cell? w _ (h j v hv))).trans (h j v hv)
theorem G.below {w W : World} (h : G w) (hb : Below w.heap.size w W) : G W := ⟨range_below h.1 hb, range_below h.2.1 hb, range_below h.2.2 hb⟩

def clsF (r : Int) : List (Int × Int × Int) → Int
  | [] => 0
  | p :: t => if p.1 ≤ r ∧ r ≤ p.2.1 then p.2.2 else clsF r t
def cls (r : Int) : Int := clsF r clsT
theorem info44 : (Tryd.prog.info? 44).map (·.size) = some (cells3 clsT).length := by kernel_rfl
theorem ix0 : ∀ W : World, (Instr.index 44 (.agg (cells3 clsT).toArray) (.int .i64 0)).run Tryd.prog W = .ok (.agg #[.int .i32 (clsT.getD 0 (0, 0, 0)).1, .int .i32 (clsT.getD 0 (0, 0, 0)).2.1, .int .i32 (clsT.getD 0 (0, 0, 0)).2.2]) W := fun _ => by kernel_rfl
theorem ix1 : ∀ W : World, (Instr.index 44 (.agg (cells3 clsT).toArray) (.int .i64 1)).run Tryd.prog W = .ok (.agg #[.int .i32 (clsT.getD 1 (0, 0, 0)).1, .int .i32 (clsT.getD 1 (0, 0, 0)).2.1, .int .i32 (clsT.getD 1 (0, 0, 0)).2.2]) W := fun _ => by kernel_rfl
theorem ix2 : ∀ W : World, (Instr.index 44 (.agg (cells3 clsT).toArray) (.int .i64 2)).run Tryd.prog W = .ok (.agg #[.int .i32 (clsT.getD 2 (0, 0, 0)).1, .int .i32 (clsT.getD 2 (0, 0, 0)).2.1, .int .i32 (clsT.getD 2 (0, 0, 0)).2.2]) W := fun _ => by kernel_rfl
theorem ix3 : ∀ W : World, (Instr.index 44 (.agg (cells3 clsT).toArray) (.int .i64 3)).run Tryd.prog W = .ok (.agg #[.int .i32 (clsT.getD 3 (0, 0, 0)).1, .int .i32 (clsT.getD 3 (0, 0, 0)).2.1, .int .i32 (clsT.getD 3 (0, 0, 0)).2.2]) W := fun _ => by kernel_rfl
theorem ix4 : ∀ W : World, (Instr.index 44 (.agg (cells3 clsT).toArray) (.int .i64 4)).run Tryd.prog W = .ok (.agg #[.int .i32 (clsT.getD 4 (0, 0, 0)).1, .int .i32 (clsT.getD 4 (0, 0, 0)).2.1, .int .i32 (clsT.getD 4 (0, 0, 0)).2.2]) W := fun _ => by kernel_rfl
theorem ix5 : ∀ W : World, (Instr.index 44 (.agg (cells3 clsT).toArray) (.int .i64 5)).run Tryd.prog W = .ok (.agg #[.int .i32 (clsT.getD 5 (0, 0, 0)).1, .int .i32 (clsT.getD 5 (0, 0, 0)).2.1, .int .i32 (clsT.getD 5 (0, 0, 0)).2.2]) W := fun _ => by kernel_rfl
theorem ix6 : ∀ W : World, (Instr.index 44 (.agg (cells3 clsT).toArray) (.int .i64 6)).run Tryd.prog W = .ok (.agg #[.int .i32 (clsT.getD 6 (0, 0, 0)).1, .int .i32 (clsT.getD 6 (0, 0, 0)).2.1, .int .i32 (clsT.getD 6 (0, 0, 0)).2.2]) W := fun _ => by kernel_rfl
theorem ix7 : ∀ W : World, (Instr.index 44 (.agg (cells3 clsT).toArray) (.int .i64 7)).run Tryd.prog W = .ok (.agg #[.int .i32 (clsT.getD 7 (0, 0, 0)).1, .int .i32 (clsT.getD 7 (0, 0, 0)).2.1, .int .i32 (clsT.getD 7 (0, 0, 0)).2.2]) W := fun _ => by kernel_rfl
theorem ix8 : ∀ W : World, (Instr.index 44 (.agg (cells3 clsT).toArray) (.int .i64 8)).run Tryd.prog W = .ok (.agg #[.int .i32 (clsT.getD 8 (0, 0, 0)).1, .int .i32 (clsT.getD 8 (0, 0, 0)).2.1, .int .i32 (clsT.getD 8 (0, 0, 0)).2.2]) W := fun _ => by kernel_rfl
theorem ix9 : ∀ W : World, (Instr.index 44 (.agg (cells3 clsT).toArray) (.int .i64 9)).run Tryd.prog W = .ok (.agg #[.int .i32 (clsT.getD 9 (0, 0, 0)).1, .int .i32 (clsT.getD 9 (0, 0, 0)).2.1, .int .i32 (clsT.getD 9 (0, 0, 0)).2.2]) W := fun _ => by kernel_rfl
theorem ix10 : ∀ W : World, (Instr.index 44 (.agg (cells3 clsT).toArray) (.int .i64 10)).run Tryd.prog W = .ok (.agg #[.int .i32 (clsT.getD 10 (0, 0, 0)).1, .int .i32 (clsT.getD 10 (0, 0, 0)).2.1, .int .i32 (clsT.getD 10 (0, 0, 0)).2.2]) W := fun _ => by kernel_rfl
theorem ix11 : ∀ W : World, (Instr.index 44 (.agg (cells3 clsT).toArray) (.int .i64 11)).run Tryd.prog W = .ok (.agg #[.int .i32 (clsT.getD 11 (0, 0, 0)).1, .int .i32 (clsT.getD 11 (0, 0, 0)).2.1, .int .i32 (clsT.getD 11 (0, 0, 0)).2.2]) W := fun _ => by kernel_rfl
theorem ix12 : ∀ W : World, (Instr.index 44 (.agg (cells3 clsT).toArray) (.int .i64 12)).run Tryd.prog W = .ok (.agg #[.int .i32 (clsT.getD 12 (0, 0, 0)).1, .int .i32 (clsT.getD 12 (0, 0, 0)).2.1, .int .i32 (clsT.getD 12 (0, 0, 0)).2.2]) W := fun _ => by kernel_rfl
theorem ix13 : ∀ W : World, (Instr.index 44 (.agg (cells3 clsT).toArray) (.int .i64 13)).run Tryd.prog W = .ok (.agg #[.int .i32 (clsT.getD 13 (0, 0, 0)).1, .int .i32 (clsT.getD 13 (0, 0, 0)).2.1, .int .i32 (clsT.getD 13 (0, 0, 0)).2.2]) W := fun _ => by kernel_rfl
theorem ix14 : ∀ W : World, (Instr.index 44 (.agg (cells3 clsT).toArray) (.int .i64 14)).run Tryd.prog W = .ok (.agg #[.int .i32 (clsT.getD 14 (0, 0, 0)).1, .int .i32 (clsT.getD 14 (0, 0, 0)).2.1, .int .i32 (clsT.getD 14 (0, 0, 0)).2.2]) W := fun _ => by kernel_rfl
theorem ix15 : ∀ W : World, (Instr.index 44 (.agg (cells3 clsT).toArray) (.int .i64 15)).run Tryd.prog W = .ok (.agg #[.int .i32 (clsT.getD 15 (0, 0, 0)).1, .int .i32 (clsT.getD 15 (0, 0, 0)).2.1, .int .i32 (clsT.getD 15 (0, 0, 0)).2.2]) W := fun _ => by kernel_rfl
theorem ix16 : ∀ W : World, (Instr.index 44 (.agg (cells3 clsT).toArray) (.int .i64 16)).run Tryd.prog W = .ok (.agg #[.int .i32 (clsT.getD 16 (0, 0, 0)).1, .int .i32 (clsT.getD 16 (0, 0, 0)).2.1, .int .i32 (clsT.getD 16 (0, 0, 0)).2.2]) W := fun _ => by kernel_rfl
theorem ix17 : ∀ W : World, (Instr.index 44 (.agg (cells3 clsT).toArray) (.int .i64 17)).run Tryd.prog W = .ok (.agg #[.int .i32 (clsT.getD 17 (0, 0, 0)).1, .int .i32 (clsT.getD 17 (0, 0, 0)).2.1, .int .i32 (clsT.getD 17 (0, 0, 0)).2.2]) W := fun _ => by kernel_rfl
theorem ix18 : ∀ W : World, (Instr.index 44 (.agg (cells3 clsT).toArray) (.int .i64 18)).run Tryd.prog W = .ok (.agg #[.int .i32 (clsT.getD 18 (0, 0, 0)).1, .int .i32 (clsT.getD 18 (0, 0, 0)).2.1, .int .i32 (clsT.getD 18 (0, 0, 0)).2.2]) W := fun _ => by kernel_rfl
theorem ix19 : ∀ W : World, (Instr.index 44 (.agg (cells3 clsT).toArray) (.int .i64 19)).run Tryd.prog W = .ok (.agg #[.int .i32 (clsT.getD 19 (0, 0, 0)).1, .int .i32 (clsT.getD 19 (0, 0, 0)).2.1, .int .i32 (clsT.getD 19 (0, 0, 0)).2.2]) W := fun _ => by kernel_rfl
theorem ix20 : ∀ W : World, (Instr.index 44 (.agg (cells3 clsT).toArray) (.int .i64 20)).run Tryd.prog W = .ok (.agg #[.int .i32 (clsT.getD 20 (0, 0, 0)).1, .int .i32 (clsT.getD 20 (0, 0, 0)).2.1, .int .i32 (clsT.getD 20 (0, 0, 0)).2.2]) W := fun _ => by kernel_rfl
theorem ix21 : ∀ W : World, (Instr.index 44 (.agg (cells3 clsT).toArray) (.int .i64 21)).run Tryd.prog W = .ok (.agg #[.int .i32 (clsT.getD 21 (0, 0, 0)).1, .int .i32 (clsT.getD 21 (0, 0, 0)).2.1, .int .i32 (clsT.getD 21 (0, 0, 0)).2.2]) W := fun _ => by kernel_rfl
theorem ix22 : ∀ W : World, (Instr.index 44 (.agg (cells3 clsT).toArray) (.int .i64 22)).run Tryd.prog W = .ok (.agg #[.int .i32 (clsT.getD 22 (0, 0, 0)).1, .int .i32 (clsT.getD 22 (0, 0, 0)).2.1, .int .i32 (clsT.getD 22 (0, 0, 0)).2.2]) W := fun _ => by kernel_rfl
theorem idx44 (i : Nat) (hi : i < 23) : ∀ W : World, (Instr.index 44 (.agg (cells3 clsT).toArray) (.int .i64 (i : Int))).run Tryd.prog W = .ok (.agg #[.int .i32 (clsT.getD i (0, 0, 0)).1, .int .i32 (clsT.getD i (0, 0, 0)).2.1, .int .i32 (clsT.getD i (0, 0, 0)).2.2]) W := by
  intro W
  match i, hi with
  | 0, _ => exact ix0 W
  | 1, _ => exact ix1 W
  | 2, _ => exact ix2 W
  | 3, _ => exact ix3 W
  | 4, _ => exact ix4 W
  | 5, _ => exact ix5 W
  | 6, _ => exact ix6 W
  | 7, _ => exact ix7 W
  | 8, _ => exact ix8 W
  | 9, _ => exact ix9 W
  | 10, _ => exact ix10 W
  | 11, _ => exact ix11 W
  | 12, _ => exact ix12 W
  | 13, _ => exact ix13 W
  | 14, _ => exact ix14 W
  | 15, _ => exact ix15 W
  | 16, _ => exact ix16 W
  | 17, _ => exact ix17 W
  | 18, _ => exact ix18 W
  | 19, _ => exact ix19 W
  | 20, _ => exact ix20 W
  | 21, _ => exact ix21 W
  | 22, _ => exact ix22 W
  | n + 23, h => exact absurd h (by omega)
theorem cls_small : ∀ p, p ∈ clsT → 0 ≤ p.2.2 ∧ p.2.2 ≤ 240 := by decide

set_option maxRecDepth 100000 in
set_option maxHeartbeats 1000000 in
theorem ClassP (w : World) (hG : G w) (r : Int) : Calls Tryd.prog 12 #[.int .i32 r] w fun e w' => e = .returned (.int .i64 (cls r)) ∧ Below w.heap.size w w' := by
  obtain ⟨tl, htl⟩ : ∃ tl, tl = cells3 clsT := ⟨_, rfl⟩
  have HT := Aside0.mk (show w.rangeAt 0 0 tl by rw [htl]; exact hG.1)
  have HI := Aside0.mk (show (Tryd.prog.info? 44).map (·.size) = some tl.length by rw [htl]; exact info44)
  have HX := Aside0.mk (show ∀ i : Nat, i < 23 → ∀ W : World, (Instr.index 44 (.agg tl.toArray) (.int .i64 (i : Int))).run Tryd.prog W = .ok (.agg #[.int .i32 (clsT.getD i (0, 0, 0)).1, .int .i32 (clsT.getD i (0, 0, 0)).2.1, .int .i32 (clsT.getD i (0, 0, 0)).2.2]) W by rw [htl]; exact idx44)
  clear hG htl
  have hu43 := Tryd.underlying43
  go_enter Tryd.func12, Tryd.ntmps12
  go_wp2_with (refine wpList_load_mid rfl 44 (.global 0) rfl 0 0 rfl tl _ HT.out Tryd.underlying44 rfl HI.out ?_)
  go_loopw [6] (fun iv wr => ∃ i : Nat, i ≤ 23 ∧ iv = .int .i64 i ∧ Aside0 (cls r = clsF r (clsT.drop i)) ∧ Aside0 (Below w.heap.size w wr)) (fun iv _ => 23 - (intOf iv).toNat)
  case atStart => exact ⟨0, Nat.zero_le _, rfl, ⟨rfl⟩, ⟨Below.refl _ _⟩⟩
  case round =>
    obtain ⟨i, hi, rfl, HE, HB⟩ := hrel
    by_cases hlt : i < 23
    · have hd : decide ((i : Int) < 23) = true := decide_eq_true (by omega)
      have hix := HX.out i hlt
      have he := HE.out
      have hmem : clsT.getD i (0, 0, 0) ∈ clsT := by
        have h1 : i < clsT.length := hlt
        rw [List.getD_eq_getElem?_getD, List.getElem?_eq_getElem h1]
        exact List.getElem_mem h1
      have hsm := cls_small _ hmem
      have hdr : clsT.drop i = clsT.getD i (0, 0, 0) :: clsT.drop (i + 1) := by
        have h1 : i < clsT.length := hlt
        rw [List.drop_eq_getElem_cons h1, List.getD_eq_getElem?_getD, List.getElem?_eq_getElem h1]
        rfl
      rw [hdr, clsF] at he
      obtain ⟨⟨a, b, c⟩, hp⟩ : ∃ p, p = clsT.getD i (0, 0, 0) := ⟨_, rfl⟩
      rw [← hp] at hix he hsm
      simp only at hix he hsm
      clear hp hmem hdr
      have NB := Aside0.mk (show Below w.heap.size w (wr.alloc (.cells #[.int .i32 a, .int .i32 b, .int .i32 c] 43)) from below_then HB.out HB.out.size (below_alloc (Below.refl _ _) _))
      by_cases ha : a ≤ r
      · have ha1 : decide (a ≤ r) = true := decide_eq_true ha
        by_cases hb : r ≤ b
        · have hb1 : decide (r ≤ b) = true := decide_eq_true hb
          rw [if_pos ⟨ha, hb⟩] at he
          have HE1 := Aside0.mk he
          have hw3 : wrap64 c = c := by unfold wrap64; omega
          clear he
          go_wp2
          go_ret
          exact ⟨by rw [HE1.out]; rfl, NB.out⟩
        · have hb1 : decide (r ≤ b) = false := decide_eq_false hb
          rw [if_neg (fun h => hb h.2)] at he
          have HE1 := Aside0.mk he
          clear he
          go_wp2
          go_roundw
          case rel => exact ⟨i + 1, by omega, by go_num, HE1, NB⟩
          case measure => simp [intOf]; omega
      · have ha1 : decide (a ≤ r) = false := decide_eq_false ha
        rw [if_neg (fun h => ha h.1)] at he
        have HE1 := Aside0.mk he
        clear he
        go_wp2
        go_roundw
        case rel => exact ⟨i + 1, by omega, by go_num, HE1, NB⟩
        case measure => simp [intOf]; omega
    · have hd : decide ((i : Int) < 23) = false := decide_eq_false (by omega)
      obtain rfl : i = 23 := by omega
      have he := HE.out
      have HE1 := Aside0.mk (show cls r = 0 from he)
      clear he
      go_wp2
      go_ret
      exact ⟨by rw [HE1.out]; rfl, HB.out⟩
end Go.Proofs.YtfiihlgigeijcaaDoor.Va
namespace Go.Proofs.YtfiihlgigeijcaaDoor.X
open Go.RowKit Go.Proofs.YtfiihlgigeijcaaDoorW.PrintWords
def ucd_Class.f (a0 : Int) : Option Int := some (Va.cls a0)
theorem ucd_Class.calls (a0 : Int) (r : Int) (w : World) (h : ucd_Class.f a0 = some r) (hG0 : Va.G w) : Calls Tryd.prog 12 #[.int .i32 a0] w fun e w' => e = .returned (.int .i64 r) ∧ Below w.heap.size w w' := by
  obtain rfl := Option.some.inj h
  exact Va.ClassP w hG0 a0
end Go.Proofs.YtfiihlgigeijcaaDoor.X
