/-
  Several texts of this claim in one: what its law's proof uses.
-/
import Derived.Test.YthffpkdadffinaaDoorProg
import Derived.Below
import Derived.Deep.Draws
import Derived.Deep.AppendLies
import Derived.Maps.AppendAt
import Derived.OwnWalk
import Derived.Laws.BytesArg
import Derived.Laws.MakeOwn
import Derived.Laws.OwnMore
import Derived.Deep.OwnRows
import Derived.Tactics
import Derived.Lib.ConvBytes
import Derived.Laws.Slices
import Derived.WalkKit
import Derived.KernelRfl
import Derived.RowKit3
import Derived.Deep.LoopGhost
import Derived.Deep.QuietTactic
import Derived.BigQuiet
import Derived.WideLaws
import Derived.Deep.DeepCutAuto
import Derived.Deep.CutBlock
import Derived.Deep.RegionHeld3
import Derived.Laws.Rows
import Derived.Lib.AppendStr
import Derived.ArgAppend
import Derived.Laws.IdiomCopy
import Derived.OrdersHeld
import Derived.Laws.BitsLemmas
import Derived.RowKit
import Derived.Test.YthffpkdadffinaaDoorMWT0
import Derived.Test.YthffpkdadffinaaDoorMWT1
namespace Go.Proofs.YthffpkdadffinaaDoor.X
open Go.RowKit YthffpkdadffinaaDoorW.PrintWords YthffpkdadffinaaDoorW.PrintLast YthffpkdadffinaaDoorW.PrintMore
attribute [local go_sem] max2_int min2_int max_two min_two max_three min_three max_four min_four   
set_option linter.unusedVariables false
set_option linter.unusedSimpArgs false
def errW : Option Int → Value
  | none => .nilIface
  | some c => .iface 0 (.int .i64 c)
theorem errW_none : errW none = .nilIface := rfl
theorem errW_some (c : Int) : errW (some c) = .iface 0 (.int .i64 c) := rfl
theorem info5 : (Tryd.prog.info? 5).map (fun i => (i.zero, i.size, i.bytes)) = some (some (.int .u8 0), 1, 1) := by kernel_rfl
theorem info9 : (Tryd.prog.info? 9).map (fun i => (i.zero, i.size, i.bytes)) = some (some (.string ⟨#[]⟩), 1, 16) := by kernel_rfl
theorem info21 : (Tryd.prog.info? 21).map (fun i => (i.zero, i.size, i.bytes)) = some (some (.int .i32 0), 1, 4) := by kernel_rfl
theorem info67 : (Tryd.prog.info? 67).map (fun i => (i.zero, i.size, i.bytes)) = some (some (.agg #[(.string ⟨#[]⟩), (.int .i64 0), (.int .i64 0)]), 3, 32) := by kernel_rfl
theorem info103 : (Tryd.prog.info? 103).map (fun i => (i.zero, i.size, i.bytes)) = some (some (.agg #[(.int .i32 0), (.int .i64 0), (.int .i64 0)]), 3, 24) := by kernel_rfl
structure S46 where
  f0 : Int
  f1 : Int
def z46 : S46 := ⟨(0 : Int), (0 : Int)⟩
def k46 : Kd S46 := Kd.iso (Kd.pair (Kd.int .i32) (Kd.int .i32)) (fun x : S46 => (x.f0, x.f1))
theorem k46_open {w : World} {x : S46} {cs : List Value} (h : k46.K w x cs) : cs = [.int .i32 x.f0, .int .i32 x.f1] := by
  obtain ⟨_, _, rfl, rfl, rfl⟩ := h; exact rfl
theorem k46_mkM (w : World) (base : Nat) (ok : Nat → Prop) (x : S46)  : k46.M w base ok x [.int .i32 x.f0, .int .i32 x.f1] := ⟨[.int .i32 x.f0], [.int .i32 x.f1], rfl, rfl, rfl⟩
def rd_T46 (xs : List S46) (i : Int) : S46 := xs.getD i.toNat z46
theorem at_T46 {w : World} {A : Option Addr} {n : Nat} {xs : List S46} (h : Kd.C k46 w A n xs) (i : Int) (h0 : 0 ≤ i) (h1 : i < n) : ∃ ad , A = some ad ∧ w.cell? (ad.add (i.toNat * 2)) = some (.int .i32 (rd_T46 xs i).f0) ∧ w.cell? ⟨(ad.add (i.toNat * 2)).block, (ad.add (i.toNat * 2)).off + 1, none⟩ = some (.int .i32 (rd_T46 xs i).f1) := by
  obtain ⟨ad, c, e, _, hK, hc0⟩ := Kd.C_get h z46 i h0 h1; have hc : ∀ j u, c[j]? = some u → w.cell? (ad.add (i.toNat * 2 + j)) = some u := hc0; obtain rfl := k46_open hK; exact ⟨ad, e, hc 0 _ rfl, by rw [← add_field _ _ 1 (by omega)]; exact hc 1 _ rfl⟩
structure S103 where
  f0 : Int
  f1 : Int
  f2 : Int
def z103 : S103 := ⟨(0 : Int), (0 : Int), (0 : Int)⟩
def k103 : Kd S103 := Kd.iso (Kd.pair (Kd.int .i32) (Kd.pair (Kd.int .i64) (Kd.int .i64))) (fun x : S103 => (x.f0, x.f1, x.f2))
theorem k103_open {w : World} {x : S103} {cs : List Value} (h : k103.K w x cs) : cs = [.int .i32 x.f0, .int .i64 x.f1, .int .i64 x.f2] := by
  obtain ⟨_, _, rfl, rfl, ⟨_, _, rfl, rfl, rfl⟩⟩ := h; exact rfl
theorem k103_mkM (w : World) (base : Nat) (ok : Nat → Prop) (x : S103)  : k103.M w base ok x [.int .i32 x.f0, .int .i64 x.f1, .int .i64 x.f2] := ⟨[.int .i32 x.f0], [.int .i64 x.f1, .int .i64 x.f2], rfl, rfl, ⟨[.int .i64 x.f1], [.int .i64 x.f2], rfl, rfl, rfl⟩⟩
def rd_T103 (xs : List S103) (i : Int) : S103 := xs.getD i.toNat z103
theorem at_T103 {w : World} {A : Option Addr} {n : Nat} {xs : List S103} (h : Kd.C k103 w A n xs) (i : Int) (h0 : 0 ≤ i) (h1 : i < n) : ∃ ad , A = some ad ∧ w.cell? (ad.add (i.toNat * 3)) = some (.int .i32 (rd_T103 xs i).f0) ∧ w.cell? ⟨(ad.add (i.toNat * 3)).block, (ad.add (i.toNat * 3)).off + 1, none⟩ = some (.int .i64 (rd_T103 xs i).f1) ∧ w.cell? ⟨(ad.add (i.toNat * 3)).block, (ad.add (i.toNat * 3)).off + 2, none⟩ = some (.int .i64 (rd_T103 xs i).f2) := by
  obtain ⟨ad, c, e, _, hK, hc0⟩ := Kd.C_get h z103 i h0 h1; have hc : ∀ j u, c[j]? = some u → w.cell? (ad.add (i.toNat * 3 + j)) = some u := hc0; obtain rfl := k103_open hK; exact ⟨ad, e, hc 0 _ rfl, by rw [← add_field _ _ 1 (by omega)]; exact hc 1 _ rfl, by rw [← add_field _ _ 2 (by omega)]; exact hc 2 _ rfl⟩
structure S67 where
  f0 : ByteArray
  f1 : Int
  f2 : Int
def z67 : S67 := ⟨(⟨#[]⟩ : ByteArray), (0 : Int), (0 : Int)⟩
def k67 : Kd S67 := Kd.iso (Kd.pair Kd.string (Kd.pair (Kd.int .i64) (Kd.int .i64))) (fun x : S67 => (x.f0, x.f1, x.f2))
theorem k67_open {w : World} {x : S67} {cs : List Value} (h : k67.K w x cs) : cs = [.string x.f0, .int .i64 x.f1, .int .i64 x.f2] := by
  obtain ⟨_, _, rfl, rfl, ⟨_, _, rfl, rfl, rfl⟩⟩ := h; exact rfl
theorem k67_mkM (w : World) (base : Nat) (ok : Nat → Prop) (x : S67)  : k67.M w base ok x [.string x.f0, .int .i64 x.f1, .int .i64 x.f2] := ⟨[.string x.f0], [.int .i64 x.f1, .int .i64 x.f2], rfl, rfl, ⟨[.int .i64 x.f1], [.int .i64 x.f2], rfl, rfl, rfl⟩⟩
def rd_T67 (xs : List S67) (i : Int) : S67 := xs.getD i.toNat z67
theorem at_T67 {w : World} {A : Option Addr} {n : Nat} {xs : List S67} (h : Kd.C k67 w A n xs) (i : Int) (h0 : 0 ≤ i) (h1 : i < n) : ∃ ad , A = some ad ∧ w.cell? (ad.add (i.toNat * 3)) = some (.string (rd_T67 xs i).f0) ∧ w.cell? ⟨(ad.add (i.toNat * 3)).block, (ad.add (i.toNat * 3)).off + 1, none⟩ = some (.int .i64 (rd_T67 xs i).f1) ∧ w.cell? ⟨(ad.add (i.toNat * 3)).block, (ad.add (i.toNat * 3)).off + 2, none⟩ = some (.int .i64 (rd_T67 xs i).f2) := by
  obtain ⟨ad, c, e, _, hK, hc0⟩ := Kd.C_get h z67 i h0 h1; have hc : ∀ j u, c[j]? = some u → w.cell? (ad.add (i.toNat * 3 + j)) = some u := hc0; obtain rfl := k67_open hK; exact ⟨ad, e, hc 0 _ rfl, by rw [← add_field _ _ 1 (by omega)]; exact hc 1 _ rfl, by rw [← add_field _ _ 2 (by omega)]; exact hc 2 _ rfl⟩
structure S58 where
  f0 : Int
  f1 : Int
  f2 : Int
  f3 : Int
def z58 : S58 := ⟨(0 : Int), (0 : Int), (0 : Int), (0 : Int)⟩
def k58 : Kd S58 := Kd.iso (Kd.pair (Kd.int .i64) (Kd.pair (Kd.int .i64) (Kd.pair (Kd.int .i64) (Kd.int .i64)))) (fun x : S58 => (x.f0, x.f1, x.f2, x.f3))
theorem k58_open {w : World} {x : S58} {cs : List Value} (h : k58.K w x cs) : cs = [.int .i64 x.f0, .int .i64 x.f1, .int .i64 x.f2, .int .i64 x.f3] := by
  obtain ⟨_, _, rfl, rfl, ⟨_, _, rfl, rfl, ⟨_, _, rfl, rfl, rfl⟩⟩⟩ := h; exact rfl
theorem k58_openM {w : World} {base : Nat} {ok : Nat → Prop} {x : S58} {cs : List Value} (h : k58.M w base ok x cs) : cs = [.int .i64 x.f0, .int .i64 x.f1, .int .i64 x.f2, .int .i64 x.f3] := by
  obtain ⟨_, _, rfl, rfl, ⟨_, _, rfl, rfl, ⟨_, _, rfl, rfl, rfl⟩⟩⟩ := h; exact rfl
theorem k58_mkM (w : World) (base : Nat) (ok : Nat → Prop) (x : S58)  : k58.M w base ok x [.int .i64 x.f0, .int .i64 x.f1, .int .i64 x.f2, .int .i64 x.f3] := ⟨[.int .i64 x.f0], [.int .i64 x.f1, .int .i64 x.f2, .int .i64 x.f3], rfl, rfl, ⟨[.int .i64 x.f1], [.int .i64 x.f2, .int .i64 x.f3], rfl, rfl, ⟨[.int .i64 x.f2], [.int .i64 x.f3], rfl, rfl, rfl⟩⟩⟩
structure S60 where
  f0 : ByteArray
  f1 : S58
def z60 : S60 := ⟨(⟨#[]⟩ : ByteArray), z58⟩
def k60 : Kd S60 := Kd.iso (Kd.pair Kd.string k58) (fun x : S60 => (x.f0, x.f1))
theorem k60_open {w : World} {x : S60} {cs : List Value} (h : k60.K w x cs) : cs = [.string x.f0, .int .i64 x.f1.f0, .int .i64 x.f1.f1, .int .i64 x.f1.f2, .int .i64 x.f1.f3] := by
  obtain ⟨_, _, rfl, rfl, s1⟩ := h; obtain rfl := k58_open s1; exact rfl
theorem k60_openM {w : World} {base : Nat} {ok : Nat → Prop} {x : S60} {cs : List Value} (h : k60.M w base ok x cs) : cs = [.string x.f0, .int .i64 x.f1.f0, .int .i64 x.f1.f1, .int .i64 x.f1.f2, .int .i64 x.f1.f3] := by
  obtain ⟨_, _, rfl, rfl, s1⟩ := h; obtain rfl := k58_openM s1; exact rfl
theorem k60_mkM (w : World) (base : Nat) (ok : Nat → Prop) (x : S60)  : k60.M w base ok x [.string x.f0, .int .i64 x.f1.f0, .int .i64 x.f1.f1, .int .i64 x.f1.f2, .int .i64 x.f1.f3] := ⟨[.string x.f0], [.int .i64 x.f1.f0, .int .i64 x.f1.f1, .int .i64 x.f1.f2, .int .i64 x.f1.f3], rfl, rfl, (k58_mkM w base ok x.f1 )⟩
def rd_T60 (xs : List S60) (i : Int) : S60 := xs.getD i.toNat z60
theorem at_T60 {w : World} {A : Option Addr} {n : Nat} {xs : List S60} (h : Kd.C k60 w A n xs) (i : Int) (h0 : 0 ≤ i) (h1 : i < n) : ∃ ad , A = some ad ∧ w.cell? (ad.add (i.toNat * 5)) = some (.string (rd_T60 xs i).f0) ∧ w.cell? ⟨(ad.add (i.toNat * 5)).block, (ad.add (i.toNat * 5)).off + 1, none⟩ = some (.int .i64 (rd_T60 xs i).f1.f0) ∧ w.cell? ⟨(ad.add (i.toNat * 5)).block, (ad.add (i.toNat * 5)).off + 2, none⟩ = some (.int .i64 (rd_T60 xs i).f1.f1) ∧ w.cell? ⟨(ad.add (i.toNat * 5)).block, (ad.add (i.toNat * 5)).off + 3, none⟩ = some (.int .i64 (rd_T60 xs i).f1.f2) ∧ w.cell? ⟨(ad.add (i.toNat * 5)).block, (ad.add (i.toNat * 5)).off + 4, none⟩ = some (.int .i64 (rd_T60 xs i).f1.f3) := by
  obtain ⟨ad, c, e, _, hK, hc0⟩ := Kd.C_get h z60 i h0 h1; have hc : ∀ j u, c[j]? = some u → w.cell? (ad.add (i.toNat * 5 + j)) = some u := hc0; obtain rfl := k60_open hK; exact ⟨ad, e, hc 0 _ rfl, by rw [← add_field _ _ 1 (by omega)]; exact hc 1 _ rfl, by rw [← add_field _ _ 2 (by omega)]; exact hc 2 _ rfl, by rw [← add_field _ _ 3 (by omega)]; exact hc 3 _ rfl, by rw [← add_field _ _ 4 (by omega)]; exact hc 4 _ rfl⟩
end Go.Proofs.YthffpkdadffinaaDoor.X
namespace Go.Proofs.YthffpkdadffinaaDoor.X
open Go.RowKit YthffpkdadffinaaDoorW.PrintWords YthffpkdadffinaaDoorW.PrintLast YthffpkdadffinaaDoorW.PrintMore
attribute [local go_sem] max2_int min2_int max_two min_two max_three min_three max_four min_four   
set_option linter.unusedVariables false
set_option linter.unusedSimpArgs false
def utf_lead.j0 : Nat → Int → Int → Int → Bool → Option (Int × Int × Int × Int)
 | 0, _, _, _, _ => none
 | k + 1, x0, x4, x5, x13 => if x13 = true then (some (0, 0, x4, x5)) else (if x0 < 224 then (some (2, wrap32 (Go.bits .and .u8 x0 31), x4, x5)) else (if x0 < 240 then (if x0 = 224 then (some (3, wrap32 (Go.bits .and .u8 x0 15), 160, x5)) else (if x0 = 237 then (some (3, wrap32 (Go.bits .and .u8 x0 15), x4, 159)) else (some (3, wrap32 (Go.bits .and .u8 x0 15), x4, x5)))) else (if x0 = 240 then (some (4, wrap32 (Go.bits .and .u8 x0 7), 144, x5)) else (if x0 = 244 then (some (4, wrap32 (Go.bits .and .u8 x0 7), x4, 143)) else (some (4, wrap32 (Go.bits .and .u8 x0 7), x4, x5))))))
def utf_lead.f (k : Nat) (a0 : Int) : Option (Int × Int × Int × Int) := if a0 < 128 then (some (1, wrap32 (a0), 128, 191)) else (if a0 < 194 then (utf_lead.j0 k a0 128 191 true) else (utf_lead.j0 k a0 128 191 (decide (a0 > 244))))
theorem utf_lead.mono_l : ∀ k, (∀ y0 y1 y2 y3, LeO (utf_lead.j0 k y0 y1 y2 y3) (utf_lead.j0 (k + 1) y0 y1 y2 y3))
 | 0 => fun _ _ _ _ r h => by simp [utf_lead.j0] at h
 | k + 1 => by
  have ih0 := utf_lead.mono_l k
  ·intro y0 y1 y2 y3; unfold utf_lead.j0; repeat' first | (with_reducible exact ih0 _ _ _ _) | (with_reducible exact LeO.refl _) | (with_reducible exact LeO.none _) | (with_reducible refine LeO.ite ?_ ?_) | (with_reducible refine LeO.bind ?_ (fun _ => ?_)) | exact ih0 _ _ _ _ | exact LeO.none _ | refine LeO.ite ?_ ?_ | refine LeO.bind ?_ (fun _ => ?_)
theorem utf_lead.mono : ∀ a0 k, LeO (utf_lead.f k a0) (utf_lead.f (k + 1) a0) := by
 intro a0 k; have ih0 := utf_lead.mono_l k; unfold utf_lead.f; repeat' first | (with_reducible exact ih0 _ _ _ _) | (with_reducible exact LeO.refl _) | (with_reducible exact LeO.none _) | (with_reducible refine LeO.ite ?_ ?_) | (with_reducible refine LeO.bind ?_ (fun _ => ?_)) | exact ih0 _ _ _ _ | exact LeO.none _ | refine LeO.ite ?_ ?_ | refine LeO.bind ?_ (fun _ => ?_)
set_option maxHeartbeats 8000000 in
set_option maxRecDepth 100000 in
theorem utf_lead.calls (k : Nat) (a0 : Int) (r1 : Int) (r2 : Int) (r3 : Int) (r4 : Int) (w : World) (h : utf_lead.f k a0 = some (r1, r2, r3, r4)) :
  Calls Tryd.prog 97 #[.int .u8 a0] w fun e w' => e = .returned (.tuple #[.int .i64 r1, .int .i32 r2, .int .u8 r3, .int .u8 r4]) ∧ Drawn0 w w' := by
 have H : (if a0 < 128 then (some (1, wrap32 (a0), 128, 191)) else (if a0 < 194 then (utf_lead.j0 k a0 128 191 true) else (utf_lead.j0 k a0 128 191 (decide (a0 > 244))))) = some (r1, r2, r3, r4) := h; clear h; by_cases c2 : a0 < 128
 ·rw [if_pos c2] at H; have c2b0 : decide (a0 < 128) = true := decide_eq_true c2; clear c2; simp only [Option.some.injEq, Prod.mk.injEq] at H; obtain ⟨rfl, rfl, rfl, rfl⟩ := H; go_enter Tryd.func97, Tryd.ntmps97; go_wp2; refine bodyPost_ret (results_list (rs := [.tmp 2, .tmp 3, .tmp 4, .tmp 5]) rfl (by simp) (.tmp (.tmp (.tmp (.tmp .nil))))) rfl ?_; exact ⟨by first | rfl | (simp; done) | (simp [*]; done), by repeat (first | exact Drawn0.refl _ | apply Drawn0.step)⟩
 ·rw [if_neg c2] at H; have c2b0 : decide (a0 < 128) = false := decide_eq_false c2; clear c2; have HC3 := Aside0.mk H; clear H; go_enter Tryd.func97, Tryd.ntmps97; go_upto_region 4 with (fail); go_cut [13] (fun v13 wc => ∃ (kq : Nat) (x13_2 : Bool), v13 = .bool x13_2 ∧ Aside0 (utf_lead.j0 kq a0 128 191 x13_2 = some (r1, r2, r3, r4)) ∧ Aside0 (kq ≤ k) ∧ Drawn0 w wc)
  case first =>
   have H := HC3.out; clear HC3; by_cases c4 : a0 < 194
   ·rw [if_pos c4] at H; have c4b0 : decide (a0 < 194) = true := decide_eq_true c4; clear c4
    (first | rw [c4b0] | (simp only [i64_w, i32_w]; rw [c4b0]) | skip)
    have H' := Aside0.mk H; clear H; go_wp2; go_meet
    case rel => exact ⟨_, (true), (by first | rfl | (simp; done) | (simp [*]; done)), H', ⟨by first | omega | exact Nat.le_refl _⟩, by repeat (first | exact Drawn0.refl _ | apply Drawn0.step)⟩
   ·rw [if_neg c4] at H; have c4b0 : decide (a0 < 194) = false := decide_eq_false c4; clear c4
    (first | rw [c4b0] | (simp only [i64_w, i32_w]; rw [c4b0]) | skip)
    have H' := Aside0.mk H; clear H; go_wp2; go_meet
    case rel => exact ⟨_, (decide (a0 > 244)), (by first | rfl | (simp; done) | (simp [*]; done)), H', ⟨by first | omega | exact Nat.le_refl _⟩, by repeat (first | exact Drawn0.refl _ | apply Drawn0.step)⟩
  case rest =>
   clear HC3; (try clear c2); (try clear c2b0); (try clear p2); (try clear p3); (try clear c4); (try clear c4b0); obtain ⟨kq, x13_2, rfl, HA, HJ2, ⟨mc2, rfl⟩⟩ := hcut
   cases kq with
   | zero => exact absurd HA.out (by simp [utf_lead.j0])
   | succ kj2 =>
    have H := HA.out; clear HA; simp only [utf_lead.j0] at H; by_cases c5 : x13_2 = true
    ·subst c5; rw [if_pos rfl] at H; simp only [Option.some.injEq, Prod.mk.injEq] at H; obtain ⟨rfl, rfl, rfl, rfl⟩ := H; go_wp2; refine bodyPost_ret (results_list (rs := [.tmp 2, .tmp 3, .tmp 4, .tmp 5]) rfl (by simp) (.tmp (.tmp (.tmp (.tmp .nil))))) rfl ?_; exact ⟨by first | rfl | (simp; done) | (simp [*]; done), by repeat (first | exact Drawn0.refl _ | apply Drawn0.step)⟩
    ·replace c5 := Bool.eq_false_iff.mpr c5; subst c5; rw [if_neg (show ¬ (false = true) by decide)] at H; by_cases c6 : a0 < 224
     ·rw [if_pos c6] at H; have c6b0 : decide (a0 < 224) = true := decide_eq_true c6; clear c6; simp only [Option.some.injEq, Prod.mk.injEq] at H; obtain ⟨rfl, rfl, rfl, rfl⟩ := H; go_wp2; refine bodyPost_ret (results_list (rs := [.tmp 2, .tmp 3, .tmp 4, .tmp 5]) rfl (by simp) (.tmp (.tmp (.tmp (.tmp .nil))))) rfl ?_; exact ⟨by first | rfl | (simp; done) | (simp [*]; done), by repeat (first | exact Drawn0.refl _ | apply Drawn0.step)⟩
     ·rw [if_neg c6] at H; have c6b0 : decide (a0 < 224) = false := decide_eq_false c6; clear c6; by_cases c7 : a0 < 240
      ·rw [if_pos c7] at H; have c7b0 : decide (a0 < 240) = true := decide_eq_true c7; clear c7; by_cases c8 : a0 = 224
       ·rw [if_pos c8] at H; have c8b0 : (a0 == 224) = true := beq_iff_eq.mpr c8; have c8b1 : (a0 != 224) = false := bne_eq_false_iff_eq.mpr c8; clear c8; simp only [Option.some.injEq, Prod.mk.injEq] at H; obtain ⟨rfl, rfl, rfl, rfl⟩ := H; go_wp2; refine bodyPost_ret (results_list (rs := [.tmp 2, .tmp 3, .tmp 4, .tmp 5]) rfl (by simp) (.tmp (.tmp (.tmp (.tmp .nil))))) rfl ?_; exact ⟨by first | rfl | (simp; done) | (simp [*]; done), by repeat (first | exact Drawn0.refl _ | apply Drawn0.step)⟩
       ·rw [if_neg c8] at H; have c8b0 : (a0 == 224) = false := beq_eq_false_iff_ne.mpr c8; have c8b1 : (a0 != 224) = true := bne_iff_ne.mpr c8; by_cases c9 : a0 = 237
        ·rw [if_pos c9] at H; have c9b0 : (a0 == 237) = true := beq_iff_eq.mpr c9; have c9b1 : (a0 != 237) = false := bne_eq_false_iff_eq.mpr c9; clear c9; simp only [Option.some.injEq, Prod.mk.injEq] at H; obtain ⟨rfl, rfl, rfl, rfl⟩ := H; go_wp2; refine bodyPost_ret (results_list (rs := [.tmp 2, .tmp 3, .tmp 4, .tmp 5]) rfl (by simp) (.tmp (.tmp (.tmp (.tmp .nil))))) rfl ?_; exact ⟨by first | rfl | (simp; done) | (simp [*]; done), by repeat (first | exact Drawn0.refl _ | apply Drawn0.step)⟩
        ·rw [if_neg c9] at H; have c9b0 : (a0 == 237) = false := beq_eq_false_iff_ne.mpr c9; have c9b1 : (a0 != 237) = true := bne_iff_ne.mpr c9; simp only [Option.some.injEq, Prod.mk.injEq] at H; obtain ⟨rfl, rfl, rfl, rfl⟩ := H; go_wp2; refine bodyPost_ret (results_list (rs := [.tmp 2, .tmp 3, .tmp 4, .tmp 5]) rfl (by simp) (.tmp (.tmp (.tmp (.tmp .nil))))) rfl ?_; exact ⟨by first | rfl | (simp; done) | (simp [*]; done), by repeat (first | exact Drawn0.refl _ | apply Drawn0.step)⟩
      ·rw [if_neg c7] at H; have c7b0 : decide (a0 < 240) = false := decide_eq_false c7; clear c7; by_cases c10 : a0 = 240
       ·rw [if_pos c10] at H; have c10b0 : (a0 == 240) = true := beq_iff_eq.mpr c10; have c10b1 : (a0 != 240) = false := bne_eq_false_iff_eq.mpr c10; clear c10; simp only [Option.some.injEq, Prod.mk.injEq] at H; obtain ⟨rfl, rfl, rfl, rfl⟩ := H; go_wp2; refine bodyPost_ret (results_list (rs := [.tmp 2, .tmp 3, .tmp 4, .tmp 5]) rfl (by simp) (.tmp (.tmp (.tmp (.tmp .nil))))) rfl ?_; exact ⟨by first | rfl | (simp; done) | (simp [*]; done), by repeat (first | exact Drawn0.refl _ | apply Drawn0.step)⟩
       ·rw [if_neg c10] at H; have c10b0 : (a0 == 240) = false := beq_eq_false_iff_ne.mpr c10; have c10b1 : (a0 != 240) = true := bne_iff_ne.mpr c10; by_cases c11 : a0 = 244
        ·rw [if_pos c11] at H; have c11b0 : (a0 == 244) = true := beq_iff_eq.mpr c11; have c11b1 : (a0 != 244) = false := bne_eq_false_iff_eq.mpr c11; clear c11; simp only [Option.some.injEq, Prod.mk.injEq] at H; obtain ⟨rfl, rfl, rfl, rfl⟩ := H; go_wp2; refine bodyPost_ret (results_list (rs := [.tmp 2, .tmp 3, .tmp 4, .tmp 5]) rfl (by simp) (.tmp (.tmp (.tmp (.tmp .nil))))) rfl ?_; exact ⟨by first | rfl | (simp; done) | (simp [*]; done), by repeat (first | exact Drawn0.refl _ | apply Drawn0.step)⟩
        ·rw [if_neg c11] at H; have c11b0 : (a0 == 244) = false := beq_eq_false_iff_ne.mpr c11; have c11b1 : (a0 != 244) = true := bne_iff_ne.mpr c11; simp only [Option.some.injEq, Prod.mk.injEq] at H; obtain ⟨rfl, rfl, rfl, rfl⟩ := H; go_wp2; refine bodyPost_ret (results_list (rs := [.tmp 2, .tmp 3, .tmp 4, .tmp 5]) rfl (by simp) (.tmp (.tmp (.tmp (.tmp .nil))))) rfl ?_; exact ⟨by first | rfl | (simp; done) | (simp [*]; done), by repeat (first | exact Drawn0.refl _ | apply Drawn0.step)⟩
end Go.Proofs.YthffpkdadffinaaDoor.X
namespace Go.Proofs.YthffpkdadffinaaDoor.X
open Go.RowKit YthffpkdadffinaaDoorW.PrintWords YthffpkdadffinaaDoorW.PrintLast YthffpkdadffinaaDoorW.PrintMore
attribute [local go_sem] max2_int min2_int max_two min_two max_three min_three max_four min_four   
set_option linter.unusedVariables false
set_option linter.unusedSimpArgs false
def utf_one.l0 : Nat → List Int → Int → Int → Int → Int → Int → Option (Int × Int × Bool)
 | 0, _, _, _, _, _, _ => none
 | k + 1, x0, x2, x5, x6, x7, x8 => if x8 < x5 then (if x8 = (x0.length : Int) then (some (65533, x8, true)) else (if 0 ≤ x8 then (if x8 < (x0.length : Int) then (if (rd x0 x8) < x6 then (some (65533, x8, false)) else (if (rd x0 x8) > x7 then (some (65533, x8, false)) else (utf_one.l0 k x0 (Go.bits .or .i32 (wrap32 (x2 * 64)) (wrap32 (Go.bits .and .u8 (rd x0 x8) 63))) x5 128 191 (wrap64 (x8 + 1))))) else (none)) else (none))) else (some (x2, x5, false))
def utf_one.f (k : Nat) (l0 : List Int) : Option (Int × Int × Bool) := if 0 < (l0.length : Int) then ((utf_lead.f k (rd l0 0)).bind fun bt122 => (if bt122.1 = 0 then (some (65533, 1, false)) else (utf_one.l0 k l0 bt122.2.1 bt122.1 bt122.2.2.1 bt122.2.2.2 1))) else (none)
theorem utf_one.mono_l : ∀ k, (∀ y0 y1 y2 y3 y4 y5, LeO (utf_one.l0 k y0 y1 y2 y3 y4 y5) (utf_one.l0 (k + 1) y0 y1 y2 y3 y4 y5))
 | 0 => fun _ _ _ _ _ _ r h => by simp [utf_one.l0] at h
 | k + 1 => by
  have ih0 := utf_one.mono_l k
  ·intro y0 y1 y2 y3 y4 y5; unfold utf_one.l0; repeat' first | (with_reducible exact ih0 _ _ _ _ _ _) | (with_reducible exact utf_lead.mono _ _) | (with_reducible exact LeO.refl _) | (with_reducible exact LeO.none _) | (with_reducible refine LeO.ite ?_ ?_) | (with_reducible refine LeO.bind ?_ (fun _ => ?_)) | exact ih0 _ _ _ _ _ _ | exact utf_lead.mono _ _ | exact LeO.none _ | refine LeO.ite ?_ ?_ | refine LeO.bind ?_ (fun _ => ?_)
theorem utf_one.mono : ∀ a0 k, LeO (utf_one.f k a0) (utf_one.f (k + 1) a0) := by
 intro a0 k; have ih0 := utf_one.mono_l k; unfold utf_one.f; repeat' first | (with_reducible exact ih0 _ _ _ _ _ _) | (with_reducible exact utf_lead.mono _ _) | (with_reducible exact LeO.refl _) | (with_reducible exact LeO.none _) | (with_reducible refine LeO.ite ?_ ?_) | (with_reducible refine LeO.bind ?_ (fun _ => ?_)) | exact ih0 _ _ _ _ _ _ | exact utf_lead.mono _ _ | exact LeO.none _ | refine LeO.ite ?_ ?_ | refine LeO.bind ?_ (fun _ => ?_)
set_option maxHeartbeats 8000000 in
set_option maxRecDepth 100000 in
theorem utf_one.calls (k : Nat) (A0 : Option Addr) (c0 : Nat) (l0 : List Int) (r1 : Int) (r2 : Int) (r3 : Bool) (w : World) (hr0 : Kd.C (Kd.int .u8) w A0 l0.length l0) (hc0 : l0.length ≤ c0) (h : utf_one.f k l0 = some (r1, r2, r3)) :
  Calls Tryd.prog 81 #[.slice A0 l0.length c0] w fun e w' => e = .returned (.tuple #[.int .i32 r1, .int .i64 r2, .bool r3]) ∧ Drawn0 w w' := by
 have HR0 := Aside0.mk hr0; have HC0 := Aside0.mk hc0; clear hr0 hc0; have H : (if 0 < (l0.length : Int) then ((utf_lead.f k (rd l0 0)).bind fun bt122 => (if bt122.1 = 0 then (some (65533, 1, false)) else (utf_one.l0 k l0 bt122.2.1 bt122.1 bt122.2.2.1 bt122.2.2.2 1))) else (none)) = some (r1, r2, r3) := h; clear h; by_cases c2 : 0 < (l0.length : Int)
 ·rw [if_pos c2] at H; have c2b0 : decide (0 < (l0.length : Int)) = true := decide_eq_true c2; have c2b1 : decide (0 < l0.length) = true := decide_eq_true (by omega); clear c2; replace H := Option.bind_eq_some_iff.mp H; obtain ⟨⟨t122, t123, t124, t125⟩, A30, H⟩ := H; (try dsimp only at H); have A3 := Aside0.mk A30; clear A30; by_cases c4 : t122 = 0
  ·rw [if_pos c4] at H; have c4b0 : (t122 == 0) = true := beq_iff_eq.mpr c4; have c4b1 : (t122 != 0) = false := bne_eq_false_iff_eq.mpr c4; clear c4; simp only [Option.some.injEq, Prod.mk.injEq] at H; obtain ⟨rfl, rfl, rfl⟩ := H; have p121 : 0 ≤ (0 : Int) := (by omega); have q121 : 0 < (l0.length : Int) := of_decide_eq_true (by first | (with_reducible assumption) | assumption); obtain ⟨ad121, e121, hx121_0⟩ := Kd.at_int HR0.out 0 p121 q121; cases e121; have qi121 : (0 < l0.length) = True := eq_true (by omega)
   (try rw [show ((0 : Int)).toNat = 0 from rfl] at hx121_0)
   (try rw [Addr.add_zero'] at hx121_0)
   replace p121 := eq_true p121; replace q121 := eq_true q121; go_enter Tryd.func81, Tryd.ntmps81; go_wp2_with (first | ((with_reducible refine gate_callee (f := 97) rfl ?_); refine goesL_ (some 13) rfl rfl Tryd.func97 (by kernel_rfl) rfl #[.int .u8 (rd l0 0)] rfl (by (try simp only [List.map_toArray, List.map_cons, List.map_nil]); first | done | rfl | (simp only [List.length_drop, List.length_take]; rfl)) ?_; (with_reducible refine (utf_lead.calls k (rd l0 0) t122 t123 t124 t125 _ A3.out).mono ?_); rintro e w' ⟨rfl, ⟨nd, rfl⟩⟩; refine ⟨_, rfl, ?_⟩)); go_ret3; exact ⟨by first | rfl | (simp; done) | (simp [*]; done), by repeat (first | exact Drawn0.refl _ | apply Drawn0.step)⟩
  ·rw [if_neg c4] at H; have c4b0 : (t122 == 0) = false := beq_eq_false_iff_ne.mpr c4; have c4b1 : (t122 != 0) = true := bne_iff_ne.mpr c4; have H' := Aside0.mk H; clear H; have p121 : 0 ≤ (0 : Int) := (by omega); have q121 : 0 < (l0.length : Int) := of_decide_eq_true (by first | (with_reducible assumption) | assumption); obtain ⟨ad121, e121, hx121_0⟩ := Kd.at_int HR0.out 0 p121 q121; cases e121; have qi121 : (0 < l0.length) = True := eq_true (by omega)
   (try rw [show ((0 : Int)).toNat = 0 from rfl] at hx121_0)
   (try rw [Addr.add_zero'] at hx121_0)
   replace p121 := eq_true p121; replace q121 := eq_true q121; go_enter Tryd.func81, Tryd.ntmps81; go_wp2_with (first | ((with_reducible refine gate_callee (f := 97) rfl ?_); refine goesL_ (some 13) rfl rfl Tryd.func97 (by kernel_rfl) rfl #[.int .u8 (rd l0 0)] rfl (by (try simp only [List.map_toArray, List.map_cons, List.map_nil]); first | done | rfl | (simp only [List.length_drop, List.length_take]; rfl)) ?_; (with_reducible refine (utf_lead.calls k (rd l0 0) t122 t123 t124 t125 _ A3.out).mono ?_); rintro e w' ⟨rfl, ⟨nd, rfl⟩⟩; refine ⟨_, rfl, ?_⟩)); go_loopg [2, 6, 7, 8] k (fun kq v2 v6 v7 v8 w' => ∃ (x2_1 : Int) (x6_1 : Int) (x7_1 : Int) (x8_1 : Int), v2 = .int .i32 x2_1 ∧ v6 = .int .u8 x6_1 ∧ v7 = .int .u8 x7_1 ∧ v8 = .int .i64 x8_1 ∧ Aside0 (utf_one.l0 kq l0 x2_1 t122 x6_1 x7_1 x8_1 = some (r1, r2, r3)) ∧ Aside0 (kq ≤ k) ∧ Drawn0 w w')
   case atStart => exact ⟨(t123), (t124), (t125), (1), (by first | rfl | (simp; done) | (simp [*]; done)), (by first | rfl | (simp; done) | (simp [*]; done)), (by first | rfl | (simp; done) | (simp [*]; done)), (by first | rfl | (simp; done) | (simp [*]; done)), H', ⟨Nat.le_refl _⟩, by repeat (first | exact Drawn0.refl _ | apply Drawn0.step)⟩
   case round =>
    clear H'; (try clear p1); (try clear q1); (try clear hx1); (try clear qi1); (try clear c2); (try clear c2b0); (try clear c2b1); (try clear p2); (try clear c4); (try clear c4b0); (try clear c4b1); (try clear hx121_0); (try clear p121); (try clear q121); obtain ⟨x2_1, x6_1, x7_1, x8_1, rfl, rfl, rfl, rfl, HA, HK1, ⟨m1, rfl⟩⟩ := hrel
    cases gk with
    | zero => exact absurd HA.out (by simp [utf_one.l0])
    | succ k1 =>
     have H := HA.out; clear HA; simp only [utf_one.l0] at H; by_cases c5 : x8_1 < t122
     ·rw [if_pos c5] at H; have c5b0 : decide (x8_1 < t122) = true := decide_eq_true c5; clear c5; by_cases c6 : x8_1 = (l0.length : Int)
      ·rw [if_pos c6] at H; have c6b0 : (x8_1 == (l0.length : Int)) = true := beq_iff_eq.mpr c6; have c6b1 : (x8_1 != (l0.length : Int)) = false := bne_eq_false_iff_eq.mpr c6; clear c6; simp only [Option.some.injEq, Prod.mk.injEq] at H; obtain ⟨rfl, rfl, rfl⟩ := H; go_wp2; go_ret3; exact ⟨by first | rfl | (simp; done) | (simp [*]; done), by repeat (first | exact Drawn0.refl _ | apply Drawn0.step)⟩
      ·rw [if_neg c6] at H; have c6b0 : (x8_1 == (l0.length : Int)) = false := beq_eq_false_iff_ne.mpr c6; have c6b1 : (x8_1 != (l0.length : Int)) = true := bne_iff_ne.mpr c6; by_cases c7 : 0 ≤ x8_1
       ·rw [if_pos c7] at H; have c7b0 : decide (0 ≤ x8_1) = true := decide_eq_true c7; clear c7; by_cases c8 : x8_1 < (l0.length : Int)
        ·rw [if_pos c8] at H; have c8b0 : decide (x8_1 < (l0.length : Int)) = true := decide_eq_true c8; clear c8; by_cases c9 : (rd l0 x8_1) < x6_1
         ·rw [if_pos c9] at H; have c9b0 : decide ((rd l0 x8_1) < x6_1) = true := decide_eq_true c9; clear c9; simp only [Option.some.injEq, Prod.mk.injEq] at H; obtain ⟨rfl, rfl, rfl⟩ := H; have p126 : 0 ≤ (x8_1 : Int) := of_decide_eq_true (by first | (with_reducible assumption) | assumption); have q126 : x8_1 < (l0.length : Int) := of_decide_eq_true (by first | (with_reducible assumption) | assumption); obtain ⟨ad126, e126, hx126_0⟩ := Kd.at_int HR0.out x8_1 p126 q126; obtain rfl : ad121 = ad126 := (by injection e126); replace p126 := eq_true p126; replace q126 := eq_true q126; go_wp2; go_ret3; exact ⟨by first | rfl | (simp; done) | (simp [*]; done), by repeat (first | exact Drawn0.refl _ | apply Drawn0.step)⟩
         ·rw [if_neg c9] at H; have c9b0 : decide ((rd l0 x8_1) < x6_1) = false := decide_eq_false c9; clear c9; by_cases c10 : (rd l0 x8_1) > x7_1
          ·rw [if_pos c10] at H; have c10b0 : decide (x7_1 < (rd l0 x8_1)) = true := decide_eq_true c10; clear c10; simp only [Option.some.injEq, Prod.mk.injEq] at H; obtain ⟨rfl, rfl, rfl⟩ := H; have p126 : 0 ≤ (x8_1 : Int) := of_decide_eq_true (by first | (with_reducible assumption) | assumption); have q126 : x8_1 < (l0.length : Int) := of_decide_eq_true (by first | (with_reducible assumption) | assumption); obtain ⟨ad126, e126, hx126_0⟩ := Kd.at_int HR0.out x8_1 p126 q126; obtain rfl : ad121 = ad126 := (by injection e126); replace p126 := eq_true p126; replace q126 := eq_true q126; have p127 : 0 ≤ (x8_1 : Int) := of_decide_eq_true (by first | (with_reducible assumption) | assumption); have q127 : x8_1 < (l0.length : Int) := of_decide_eq_true (by first | (with_reducible assumption) | assumption); obtain ⟨ad127, e127, hx127_0⟩ := Kd.at_int HR0.out x8_1 p127 q127; obtain rfl : ad121 = ad127 := (by injection e127); replace p127 := eq_true p127; replace q127 := eq_true q127; go_wp2; go_ret3; exact ⟨by first | rfl | (simp; done) | (simp [*]; done), by repeat (first | exact Drawn0.refl _ | apply Drawn0.step)⟩
          ·rw [if_neg c10] at H; have c10b0 : decide (x7_1 < (rd l0 x8_1)) = false := decide_eq_false c10; clear c10; have H' := Aside0.mk H; clear H; have p126 : 0 ≤ (x8_1 : Int) := of_decide_eq_true (by first | (with_reducible assumption) | assumption); have q126 : x8_1 < (l0.length : Int) := of_decide_eq_true (by first | (with_reducible assumption) | assumption); obtain ⟨ad126, e126, hx126_0⟩ := Kd.at_int HR0.out x8_1 p126 q126; obtain rfl : ad121 = ad126 := (by injection e126); replace p126 := eq_true p126; replace q126 := eq_true q126; have p127 : 0 ≤ (x8_1 : Int) := of_decide_eq_true (by first | (with_reducible assumption) | assumption); have q127 : x8_1 < (l0.length : Int) := of_decide_eq_true (by first | (with_reducible assumption) | assumption); obtain ⟨ad127, e127, hx127_0⟩ := Kd.at_int HR0.out x8_1 p127 q127; obtain rfl : ad121 = ad127 := (by injection e127); replace p127 := eq_true p127; replace q127 := eq_true q127; have p128 : 0 ≤ (x8_1 : Int) := of_decide_eq_true (by first | (with_reducible assumption) | assumption); have q128 : x8_1 < (l0.length : Int) := of_decide_eq_true (by first | (with_reducible assumption) | assumption); obtain ⟨ad128, e128, hx128_0⟩ := Kd.at_int HR0.out x8_1 p128 q128; obtain rfl : ad121 = ad128 := (by injection e128); replace p128 := eq_true p128; replace q128 := eq_true q128; go_wp2; go_roundg k1
           case measure => have := HK1.out; omega
           case rel => exact ⟨(Go.bits .or .i32 (wrap32 (x2_1 * 64)) (wrap32 (Go.bits .and .u8 (rd l0 x8_1) 63))), (128), (191), (wrap64 (x8_1 + 1)), (by first | rfl | (simp; done) | (simp [*]; done)), (by first | rfl | (simp; done) | (simp [*]; done)), (by first | rfl | (simp; done) | (simp [*]; done)), (by first | rfl | (simp; done) | (simp [*]; done)), H', ⟨by have := HK1.out; omega⟩, by repeat (first | exact Drawn0.refl _ | apply Drawn0.step)⟩
        ·rw [if_neg c8] at H; exact absurd H (by simp)
       ·rw [if_neg c7] at H; exact absurd H (by simp)
     ·rw [if_neg c5] at H; have c5b0 : decide (x8_1 < t122) = false := decide_eq_false c5; clear c5; simp only [Option.some.injEq, Prod.mk.injEq] at H; obtain ⟨rfl, rfl, rfl⟩ := H; go_wp2; go_ret3; exact ⟨by first | rfl | (simp; done) | (simp [*]; done), by repeat (first | exact Drawn0.refl _ | apply Drawn0.step)⟩
 ·rw [if_neg c2] at H; exact absurd H (by simp)
end Go.Proofs.YthffpkdadffinaaDoor.X
namespace Go.Proofs.YthffpkdadffinaaDoor.Hp
set_option linter.unusedVariables false
set_option linter.unusedSimpArgs false
open Go.RowKit YthffpkdadffinaaDoorW.PrintWords
structure Chg (S : Nat → Prop) (w w' : World) : Prop where
  os : w'.os = w.os
  tape : w'.tape = w.tape
  output : w'.output = w.output
  size : w.heap.size ≤ w'.heap.size
  keep : ∀ k, k < w.heap.size → ¬ S k → w'.heap[k]? = w.heap[k]?
namespace Chg
variable {S S' : Nat → Prop} {w w' w1 w2 : World}
theorem refl (S : Nat → Prop) (w : World) : Chg S w w := ⟨rfl, rfl, rfl, Nat.le_refl _, fun _ _ _ => rfl⟩
theorem mono (h : Chg S w w') (hs : ∀ k, k < w.heap.size → S k → S' k) : Chg S' w w' :=
  ⟨h.os, h.tape, h.output, h.size, fun k hk hn => h.keep k hk (fun h2 => hn (hs k hk h2))⟩
theorem trans (h : Chg S w w1) (k : Chg S' w1 w2) (hs : ∀ i, i < w.heap.size → S' i → S i) : Chg S w w2 :=
  ⟨k.os.trans h.os, k.tape.trans h.tape, k.output.trans h.output, Nat.le_trans h.size k.size,
    fun i hi hn => (k.keep i (Nat.lt_of_lt_of_le hi h.size) (fun h2 => hn (hs i hi h2))).trans (h.keep i hi hn)⟩
theorem of_below {B : Nat} (h : Below B w w') (hB : ∀ k, k < w.heap.size → B ≤ k → S k) : Chg S w w' :=
  ⟨h.os, h.tape, h.output, h.size, fun i hi hn => h.block i (by rcases Nat.lt_or_ge i B with h1 | h1; exact h1; exact absurd (hB i hi h1) hn)⟩
theorem below (h : Chg S w w') {B : Nat} (hB : ∀ k, k < B → k < w.heap.size ∧ ¬ S k) : Below B w w' :=
  ⟨h.os, h.tape, h.output, h.size, fun k hk => h.keep k (hB k hk).1 (hB k hk).2⟩
theorem then_below (h : Chg S w w1) (k : Below w1.heap.size w1 w2) : Chg S w w2 :=
  h.trans (of_below k (S := fun _ => False) (fun i h1 h2 => by omega)) (fun _ _ h => h.elim)
theorem then_drawn (h : Chg S w w1) (k : Drawn0 w1 w2) : Chg S w w2 := h.then_below k.below
theorem drew (h : Chg S w w1) : Chg S w w1.drew := h.then_drawn ((Drawn0.refl w1).step 1)
theorem drewN (h : Chg S w w1) (n : Nat) : Chg S w (w1.drewN n) := h.then_drawn ((Drawn0.refl w1).step n)
theorem alloc (h : Chg S w w1) (o : Obj) : Chg S w (w1.alloc o) := h.then_below (below_alloc (Below.refl _ _) o)
theorem grown {row : Option Nat} (h : Chg S w w1) (hg : w1.grownBy w2 row) (hr : ∀ k, row = some k → S k ∨ w.heap.size ≤ k) : Chg S w w2 :=
  h.trans (S' := fun k => row = some k) ⟨hg.os, hg.tape, hg.output, hg.size, fun k hk hn => hg.block k hk (fun he => hn he.symm)⟩
    (fun i hi h2 => (hr i h2).elim id (fun h3 => by omega))
theorem setCell (h : Chg S w w1) {p : Addr} (hp : S p.block ∨ w.heap.size ≤ p.block) (u : Value) : Chg S w (w1.setCell p u) :=
  h.trans (S' := fun k => k = p.block) ⟨rfl, rfl, rfl, by simp [World.setCell], fun k _ hn => Below.heap_setCell _ _ _ _ hn⟩
    (fun i hi h2 => hp.elim (fun h3 => h2 ▸ h3) (fun h3 => by omega))
theorem kept (h : Chg S w w') : w.heap.size ≤ w'.heap.size ∧ ∀ i, i < w.heap.size → ¬ S i → w'.heap[i]? = w.heap[i]? := ⟨h.size, h.keep⟩
theorem below_of {w0 : World} (hb : Below w0.heap.size w0 w) (h : Chg S w w') (hS : ∀ k, S k → w0.heap.size ≤ k) : Below w0.heap.size w0 w' :=
  hb.trans (h.below (fun k hk => ⟨Nat.lt_of_lt_of_le hk hb.size, fun h2 => by have := hS k h2; omega⟩))
theorem heap (h : Chg S w w') {g : Nat} {o : Obj} (hb : w.heap[g]? = some o) (hne : ¬ S g) : w'.heap[g]? = some o := (h.keep g (blk_lt hb) hne).trans hb
theorem lt (h : Chg S w w') {k : Nat} (hk : k < w.heap.size) : k < w'.heap.size := Nat.lt_of_lt_of_le hk h.size
end Chg
def Ft (P : World → Prop) (W : World) (ok : Nat → Prop) : Prop := ∀ W' : World, (∀ k, ok k → k < W.heap.size → W'.heap[k]? = W.heap[k]?) → P W'
namespace Ft
variable {P Q : World → Prop} {W W1 : World} {ok ok' S : Nat → Prop}
theorem hlt {k : Nat} (h : W1.heap[k]? = W.heap[k]?) (hlt : k < W.heap.size) : k < W1.heap.size := by
  rw [Array.getElem?_eq_getElem hlt] at h; exact (Array.getElem?_eq_some_iff.1 h).1
theorem now (h : Ft P W ok) : P W := h W (fun _ _ _ => rfl)
theorem mono (h : Ft P W ok) (hok : ∀ k, k < W.heap.size → ok k → ok' k) : Ft P W ok' := fun W' hW => h W' (fun k hk hlt => hW k (hok k hlt hk) hlt)
theorem bound (h : Ft P W ok) : Ft P W (fun k => ok k ∧ k < W.heap.size) := h.mono fun _ hlt hk => ⟨hk, hlt⟩
theorem step (h : Ft P W ok) (hm : ∀ k, ok k → k < W.heap.size → W1.heap[k]? = W.heap[k]?) : Ft P W1 (fun k => ok k ∧ k < W.heap.size) := fun W' hW => h W' (fun k hk hlt => (hW k ⟨hk, hlt⟩ (hlt |> Ft.hlt (hm k hk hlt))).trans (hm k hk hlt))
theorem imp (h : Ft P W ok) (hi : ∀ W', P W' → Q W') : Ft Q W ok := fun W' hW => hi W' (h W' hW)
theorem and (h : Ft P W ok) (k : Ft Q W ok') : Ft (fun w => P w ∧ Q w) W (fun i => ok i ∨ ok' i) := fun W' hW => ⟨h W' (fun i hi => hW i (.inl hi)), k W' (fun i hi => hW i (.inr hi))⟩
end Ft
section
variable {α : Type} {d : Kd α} {e base n c : Nat} {ok S : Nat → Prop} {w w0 W W1 : World} {v : Value} {A : Option Addr} {xs : List α}
theorem R_chg (h : d.R e W base ok v xs) (hc : Chg S W W1) (hne : ∀ k, ok k → ¬ S k) : d.R e W1 base ok v xs := Kd.R_step h (fun k ho hlt => hc.keep k hlt (hne k ho))
theorem cell_chg {a : Addr} {u : Value} (hc : W.cell? a = some u) (hk : Chg S W W1) (hne : ¬ S a.block) : W1.cell? a = some u := by
  have := hk.keep a.block (World.block_lt_of_cell? W a hc) hne
  simpa [World.cell?, this] using hc
end
theorem lit_reads {w : World} {b : Nat} {t : TypeId} {k : IntKind} {xs : List Int} {cs : Array Value} {fr : Nat × Nat} (h : w.heap[b]? = some (.cells cs t fr)) (hc : cs.toList = nums k xs) (hm : xs.length ≤ 9223372036854775807) :
    ReadsInt w k (some ⟨b, 0, none⟩) xs.length xs := by
  refine ⟨rfl, hm, fun _ => ⟨_, rfl, fun j hj => ?_⟩⟩; rw [add_plain]
  have : cs[j]? = some (.int k (xs.getD j 0)) := by
    rw [← Array.getElem?_toList, hc]; simp [nums, List.getElem?_eq_getElem hj, List.getD_eq_getElem?_getD]
  simp [World.cell?, h, this]
theorem rdint {w : World} {k : IntKind} {A : Option Addr} {n : Nat} {xs : List Int} (h : (Kd.int k).C w A n xs) : ReadsInt w k A n xs := Kd.reads_of_C (d := (0 : Int)) (h1 := fun _ => rfl) h
theorem rdC {w : World} {k : IntKind} {A : Option Addr} {n : Nat} {xs : List Int} (h : ReadsInt w k A n xs) : (Kd.int k).C w A n xs := Kd.C_of_reads (d := (0 : Int)) (h1 := fun _ => rfl) h
theorem below_size {w W : World} (h : Below w.heap.size w W) : w.heap.size ≤ W.heap.size := h.size
end Go.Proofs.YthffpkdadffinaaDoor.Hp
namespace Go.Proofs.YthffpkdadffinaaDoor.Ux
set_option linter.unusedVariables false
set_option linter.unusedSimpArgs false
open Go.RowKit YthffpkdadffinaaDoorW.PrintWords Hp X
def bnd (c : Int) : Option (List (Int × Int)) :=
  if c < 128 then some []
  else if c < 194 ∨ 244 < c then none
  else if c < 224 then some [(128, 191)]
  else if c < 240 then some [(if c = 224 then 160 else 128, if c = 237 then 159 else 191), (128, 191)]
  else some [(if c = 240 then 144 else 128, if c = 244 then 143 else 191), (128, 191), (128, 191)]
def st (c : Int) : Int := if c < 128 then c else if c < 224 then c % 32 else if c < 240 then c % 16 else c % 8
def cont : List (Int × Int) → List Int → Int → Int → Int × Int × Bool
  | [], _, r, i => (r, i, false)
  | _ :: _, [], _, i => (65533, i, true)
  | (lo, hi) :: bs, x :: t, r, i => if x < lo ∨ hi < x then (65533, i, false) else cont bs t (r * 64 + x % 64) (i + 1)
def one1 (c : Int) (t : List Int) : Int × Int × Bool :=
  match bnd c with
  | none => (65533, 1, false)
  | some bs => cont bs t (st c) 1
def Bytes (l : List Int) : Prop := ∀ x, x ∈ l → 0 ≤ x ∧ x ≤ 255
theorem cont_width : ∀ (bs : List (Int × Int)) (t : List Int) (r i : Int), i ≤ (cont bs t r i).2.1 ∧ (cont bs t r i).2.1 ≤ i + bs.length ∧ (cont bs t r i).2.1 ≤ i + t.length
  | [], t, r, i => by simp [cont]; omega
  | b :: bs, [], r, i => by simp [cont]; omega
  | (lo, hi) :: bs, x :: t, r, i => by
    simp only [cont]; split
    · simp; omega
    · have := cont_width bs t (r * 64 + x % 64) (i + 1); simp only [List.length_cons]; omega
theorem bnd_len {c : Int} {bs : List (Int × Int)} (h : bnd c = some bs) : bs.length ≤ 3 := by
  unfold bnd at h; split at h
  · cases h; decide
  · split at h
    · cases h
    · split at h
      · cases h; simp
      · split at h
        · cases h; simp
        · cases h; simp
theorem one1_width (c : Int) (t : List Int) : 1 ≤ (one1 c t).2.1 ∧ (one1 c t).2.1 ≤ 4 ∧ (one1 c t).2.1 ≤ 1 + t.length := by
  unfold one1
  cases h : bnd c with
  | none => simp; omega
  | some bs =>
    have h1 := cont_width bs t (st c) 1; have h2 := bnd_len h; simp only; omega
theorem rd_at (l : List Int) (i : Nat) (h : i < l.length) : rd l (i : Int) = l[i] := by simp [rd, List.getD_eq_getElem?_getD, h]
theorem step_r (r x : Int) (h0 : 0 ≤ r) (hr : (r + 1) * 64 ≤ 2097152) (hx : 0 ≤ x ∧ x ≤ 255) : bits .or .i32 (wrap32 (r * 64)) (wrap32 (bits .and .u8 x 63)) = r * 64 + x % 64 := by
  (have ea : wrap32 (r * 64) = r * 64 := by unfold wrap32; omega); (have eb : wrap32 (bits .and .u8 x 63) = x % 64 := by rw [u8_and63 x hx.1 (by omega)]; unfold wrap32; omega); rw [ea, eb]; exact i32_or6 (r * 64) (x % 64) (by omega) (by omega) (by omega) (by omega) (by omega)
theorem step_p {r x : Int} {p : Nat} (h0 : 0 ≤ r) (hp : 1 ≤ p) (hr : (r + 1) * (64 * p : Nat) ≤ 2097152) : (r + 1) * 64 ≤ 2097152 ∧ (r * 64 + x % 64 + 1) * (p : Int) ≤ 2097152 := by
  (have e : ((64 * p : Nat) : Int) = 64 * (p : Int) := by push_cast; rfl); rw [e, ← Int.mul_assoc] at hr; have h1 : (r + 1) * 64 * 1 ≤ (r + 1) * 64 * (p : Int) := Int.mul_le_mul_of_nonneg_left (by omega) (by omega); have h2 : (r * 64 + x % 64 + 1) * (p : Int) ≤ (r + 1) * 64 * (p : Int) := Int.mul_le_mul_of_nonneg_right (by omega) (by omega); exact ⟨by omega, Int.le_trans h2 hr⟩
theorem loop_cont (l : List Int) (hb : Bytes l) (hl : l.length ≤ 140737488355328) : ∀ (bs : List (Int × Int)) (k i : Nat) (r lo hi : Int), (∀ b, b ∈ bs.tail → b = (128, 191)) → (∀ b, bs.head? = some b → b = (lo, hi)) → bs.length < k → 0 ≤ r → (r + 1) * (64 ^ bs.length : Nat) ≤ 2097152 → i ≤ l.length →
    utf_one.l0 k l r ((i : Int) + bs.length) lo hi i = some (cont bs (l.drop i) r i)
  | [], k, i, r, lo, hi, _, _, hk, _, _, _ => by
    obtain ⟨k, rfl⟩ : ∃ m, k = m + 1 := ⟨k - 1, by omega⟩; simp only [utf_one.l0, List.length_nil]; rw [if_neg (by omega)]; simp [cont]
  | (lo', hi') :: bs, k, i, r, lo, hi, ht, hh, hk, h0, hr, hi1 => by
    obtain ⟨k, rfl⟩ : ∃ m, k = m + 1 := ⟨k - 1, by omega⟩; have e := hh _ rfl; injection e with e1 e2; subst e1; subst e2; simp only [List.length_cons] at hk hr ⊢; simp only [utf_one.l0]; rw [if_pos (by omega)]; by_cases he : i = l.length
    · rw [if_pos (by omega), List.drop_eq_nil_of_le (by omega)]; simp [cont]
    · (have hlt : i < l.length := by omega); rw [if_neg (by omega), if_pos (by omega), if_pos (by omega), rd_at l i hlt, List.drop_eq_getElem_cons hlt]; have hx := hb l[i] (List.getElem_mem hlt); obtain ⟨x, hxe⟩ : ∃ x, x = l[i] := ⟨_, rfl⟩; rw [← hxe] at hx ⊢; simp only [cont]; by_cases h1 : x < lo'
      · rw [if_pos h1, if_pos (.inl h1)]
      · rw [if_neg h1]; by_cases h2 : x > hi'
        · rw [if_pos h2, if_pos (.inr h2)]
        · rw [if_neg h2, if_neg (by omega)]; have hp := step_p (x := x) h0 (Nat.one_le_pow bs.length 64 (by omega)) (by rw [Nat.pow_succ, Nat.mul_comm] at hr; exact hr); (have ew : wrap64 ((i : Int) + 1) = ((i + 1 : Nat) : Int) := by clear hr hp; unfold wrap64; omega); (have ei : ((i : Int) + ((bs.length + 1 : Nat) : Int)) = (((i + 1 : Nat) : Int) + (bs.length : Int)) := by clear hr hp; omega); rw [step_r r x h0 hp.1 hx, ew, ei]; (have h0' : 0 ≤ r * 64 + x % 64 := by clear hr hp; omega); have ih := loop_cont l hb hl bs k (i + 1) (r * 64 + x % 64) 128 191 (fun b hb => ht b (List.mem_of_mem_tail hb)) (fun b hb2 => ht b (List.mem_of_mem_head? hb2)) (by clear hr hp; omega) h0' hp.2 (by clear hr hp; omega); rw [ih]
          push_cast
          rfl
theorem lead_some (c : Int) (h : 0 ≤ c ∧ c ≤ 255) : ∃ lo hi, utf_lead.f 8 c = some ((match bnd c with | none => 0 | some bs => (bs.length : Int) + 1), (match bnd c with | none => 0 | some _ => st c), lo, hi) ∧ ∀ b, (bnd c).bind List.head? = some b → b = (lo, hi) := by
  unfold utf_lead.f bnd st; by_cases h1 : c < 128
  · simp only [if_pos h1]; refine ⟨128, 191, ?_, by simp⟩; (have : wrap32 c = c := by unfold wrap32; omega); simp [this]
  · simp only [if_neg h1]; by_cases h2 : c < 194
    · simp only [if_pos h2, if_pos (show c < 194 ∨ 244 < c from .inl h2), utf_lead.j0, if_true]; exact ⟨_, _, rfl, by simp⟩
    · simp only [if_neg h2]; by_cases h3 : c > 244
      · simp only [if_pos (show c < 194 ∨ 244 < c from .inr h3), decide_eq_true h3, utf_lead.j0, if_true]; exact ⟨_, _, rfl, by simp⟩
      · simp only [if_neg (show ¬ (c < 194 ∨ 244 < c) by omega), decide_eq_false h3, utf_lead.j0, Bool.false_eq_true, if_false]; (have e31 : wrap32 (bits .and .u8 c 31) = c % 32 := by rw [u8_and31 c h.1 (by omega)]; unfold wrap32; omega); (have e15 : wrap32 (bits .and .u8 c 15) = c % 16 := by rw [u8_and15 c h.1 (by omega)]; unfold wrap32; omega); (have e7 : wrap32 (bits .and .u8 c 7) = c % 8 := by rw [u8_and7 c h.1 (by omega)]; unfold wrap32; omega); rw [e31, e15, e7]; by_cases h4 : c < 224
        · simp only [if_pos h4]; exact ⟨_, _, rfl, by simp⟩
        · simp only [if_neg h4]; by_cases h5 : c < 240
          · simp only [if_pos h5]; by_cases h6 : c = 224
            · simp only [if_pos h6]; exact ⟨_, _, rfl, by subst h6; simp⟩
            · simp only [if_neg h6]; by_cases h7 : c = 237
              · simp only [if_pos h7]; exact ⟨_, _, rfl, by subst h7; simp⟩
              · simp only [if_neg h7]; exact ⟨_, _, rfl, by simp⟩
          · simp only [if_neg h5]; by_cases h6 : c = 240
            · simp only [if_pos h6]; exact ⟨_, _, rfl, by subst h6; simp⟩
            · simp only [if_neg h6]; by_cases h7 : c = 244
              · simp only [if_pos h7]; exact ⟨_, _, rfl, by subst h7; simp⟩
              · simp only [if_neg h7]; exact ⟨_, _, rfl, by simp⟩
theorem bnd_tail {c : Int} {bs : List (Int × Int)} (h : bnd c = some bs) : ∀ b, b ∈ bs.tail → b = (128, 191) := by
  unfold bnd at h; split at h
  · cases h; simp
  · split at h
    · cases h
    · split at h
      · cases h; simp
      · split at h
        · cases h; simp
        · cases h; simp
theorem st_bound {c : Int} {bs : List (Int × Int)} (hc : 0 ≤ c ∧ c ≤ 255) (h : bnd c = some bs) : 0 ≤ st c ∧ (st c + 1) * (64 ^ bs.length : Nat) ≤ 2097152 := by
  unfold bnd at h; unfold st; split at h
  · rename_i h1; cases h; rw [if_pos h1]; simp; omega
  · rename_i h1; rw [if_neg h1]; split at h
    · cases h
    · split at h
      · rename_i h2; cases h; rw [if_pos h2]; simp; omega
      · rename_i h2; rw [if_neg h2]; split at h
        · rename_i h3; cases h; rw [if_pos h3]; simp; omega
        · rename_i h3; cases h; rw [if_neg h3]; simp; omega
theorem one_pure (c : Int) (t : List Int) (hb : Bytes (c :: t)) (hl : (c :: t).length ≤ 140737488355328) : utf_one.f 8 (c :: t) = some (one1 c t) := by
  have hc := hb c List.mem_cons_self; obtain ⟨lo, hi, hlead, hhead⟩ := lead_some c hc; unfold utf_one.f; rw [if_pos (by simp), show rd (c :: t) 0 = c from rfl, hlead]; simp only [Option.bind_some, one1]
  cases h : bnd c with
  | none => simp
  | some bs =>
    simp only; rw [if_neg (by omega)]; have := loop_cont (c :: t) hb hl bs 8 1 (st c) lo hi (bnd_tail h) (fun b hb2 => hhead b (by rw [h]; exact hb2)) (by have := bnd_len h; omega) (st_bound hc h).1 (st_bound hc h).2 (by simp); rw [show (bs.length : Int) + 1 = ((1 : Nat) : Int) + bs.length by omega]
    simpa using this
end Go.Proofs.YthffpkdadffinaaDoor.Ux
namespace Go.Proofs.YthffpkdadffinaaDoor.X
open Go.RowKit YthffpkdadffinaaDoorW.PrintWords YthffpkdadffinaaDoorW.PrintLast YthffpkdadffinaaDoorW.PrintMore
attribute [local go_sem] max2_int min2_int max_two min_two max_three min_three max_four min_four   
set_option linter.unusedVariables false
set_option linter.unusedSimpArgs false
def tremaref01_Valid.f (a0 : Int) : Option (Bool) := if a0 ≥ 0 then (if a0 < 1114112 then (if a0 ≥ 55296 then (some (!(decide (a0 < 57344)))) else (some (!false))) else (some false)) else (some false)
set_option maxHeartbeats 8000000 in
set_option maxRecDepth 100000 in
theorem tremaref01_Valid.calls (a0 : Int) (r : Bool) (w : World) (h : tremaref01_Valid.f a0 = some r) :
  Calls Tryd.prog 112 #[.int .i32 a0] w fun e w' => e = .returned (.bool r) ∧ Drawn0 w w' := by
 have H : (if a0 ≥ 0 then (if a0 < 1114112 then (if a0 ≥ 55296 then (some (!(decide (a0 < 57344)))) else (some (!false))) else (some false)) else (some false)) = some r := h; clear h; by_cases c2 : a0 ≥ 0
 ·rw [if_pos c2] at H; have c2b0 : decide (0 ≤ a0) = true := decide_eq_true c2; clear c2; by_cases c3 : a0 < 1114112
  ·rw [if_pos c3] at H; have c3b0 : decide (a0 < 1114112) = true := decide_eq_true c3; clear c3; by_cases c4 : a0 ≥ 55296
   ·rw [if_pos c4] at H; have c4b0 : decide (55296 ≤ a0) = true := decide_eq_true c4; clear c4; obtain rfl := Option.some.inj H; go_enter Tryd.func112, Tryd.ntmps112; go_wp2; go_ret; exact ⟨by first | rfl | (simp; done) | (simp [*]; done), by repeat (first | exact Drawn0.refl _ | apply Drawn0.step)⟩
   ·rw [if_neg c4] at H; have c4b0 : decide (55296 ≤ a0) = false := decide_eq_false c4; clear c4; obtain rfl := Option.some.inj H; go_enter Tryd.func112, Tryd.ntmps112; go_wp2; go_ret; exact ⟨by first | rfl | (simp; done) | (simp [*]; done), by repeat (first | exact Drawn0.refl _ | apply Drawn0.step)⟩
  ·rw [if_neg c3] at H; have c3b0 : decide (a0 < 1114112) = false := decide_eq_false c3; clear c3; obtain rfl := Option.some.inj H; go_enter Tryd.func112, Tryd.ntmps112; go_wp2; go_ret; exact ⟨by first | rfl | (simp; done) | (simp [*]; done), by repeat (first | exact Drawn0.refl _ | apply Drawn0.step)⟩
 ·rw [if_neg c2] at H; have c2b0 : decide (0 ≤ a0) = false := decide_eq_false c2; clear c2; obtain rfl := Option.some.inj H; go_enter Tryd.func112, Tryd.ntmps112; go_wp2; go_ret; exact ⟨by first | rfl | (simp; done) | (simp [*]; done), by repeat (first | exact Drawn0.refl _ | apply Drawn0.step)⟩
end Go.Proofs.YthffpkdadffinaaDoor.X
namespace Go.Proofs.YthffpkdadffinaaDoor.X
open Go.RowKit YthffpkdadffinaaDoorW.PrintWords YthffpkdadffinaaDoorW.PrintLast YthffpkdadffinaaDoorW.PrintMore
attribute [local go_sem] max2_int min2_int max_two min_two max_three min_three max_four min_four   
set_option linter.unusedVariables false
set_option linter.unusedSimpArgs false
def utf_Valid.f (a0 : Int) : Option (Bool) := if a0 ≥ 0 then (if a0 ≤ 1114111 then (if a0 < 55296 then (some true) else (some (decide (a0 > 57343)))) else (some false)) else (some false)
set_option maxHeartbeats 8000000 in
set_option maxRecDepth 100000 in
theorem utf_Valid.calls (a0 : Int) (r : Bool) (w : World) (h : utf_Valid.f a0 = some r) :
  Calls Tryd.prog 94 #[.int .i32 a0] w fun e w' => e = .returned (.bool r) ∧ Drawn0 w w' := by
 have H : (if a0 ≥ 0 then (if a0 ≤ 1114111 then (if a0 < 55296 then (some true) else (some (decide (a0 > 57343)))) else (some false)) else (some false)) = some r := h; clear h; by_cases c2 : a0 ≥ 0
 ·rw [if_pos c2] at H; have c2b0 : decide (0 ≤ a0) = true := decide_eq_true c2; clear c2; by_cases c3 : a0 ≤ 1114111
  ·rw [if_pos c3] at H; have c3b0 : decide (a0 ≤ 1114111) = true := decide_eq_true c3; clear c3; by_cases c4 : a0 < 55296
   ·rw [if_pos c4] at H; have c4b0 : decide (a0 < 55296) = true := decide_eq_true c4; clear c4; obtain rfl := Option.some.inj H; go_enter Tryd.func94, Tryd.ntmps94; go_wp2; go_ret; exact ⟨by first | rfl | (simp; done) | (simp [*]; done), by repeat (first | exact Drawn0.refl _ | apply Drawn0.step)⟩
   ·rw [if_neg c4] at H; have c4b0 : decide (a0 < 55296) = false := decide_eq_false c4; clear c4; obtain rfl := Option.some.inj H; go_enter Tryd.func94, Tryd.ntmps94; go_wp2; go_ret; exact ⟨by first | rfl | (simp; done) | (simp [*]; done), by repeat (first | exact Drawn0.refl _ | apply Drawn0.step)⟩
  ·rw [if_neg c3] at H; have c3b0 : decide (a0 ≤ 1114111) = false := decide_eq_false c3; clear c3; obtain rfl := Option.some.inj H; go_enter Tryd.func94, Tryd.ntmps94; go_wp2; go_ret; exact ⟨by first | rfl | (simp; done) | (simp [*]; done), by repeat (first | exact Drawn0.refl _ | apply Drawn0.step)⟩
 ·rw [if_neg c2] at H; have c2b0 : decide (0 ≤ a0) = false := decide_eq_false c2; clear c2; obtain rfl := Option.some.inj H; go_enter Tryd.func94, Tryd.ntmps94; go_wp2; go_ret; exact ⟨by first | rfl | (simp; done) | (simp [*]; done), by repeat (first | exact Drawn0.refl _ | apply Drawn0.step)⟩
end Go.Proofs.YthffpkdadffinaaDoor.X
namespace Go.Proofs.YthffpkdadffinaaDoor.X
open Go.RowKit YthffpkdadffinaaDoorW.PrintWords YthffpkdadffinaaDoorW.PrintLast YthffpkdadffinaaDoorW.PrintMore
attribute [local go_sem] max2_int min2_int max_two min_two max_three min_three max_four min_four   
set_option linter.unusedVariables false
set_option linter.unusedSimpArgs false
mutual
def utf_Encode.l0 : Nat → List Int → List Int → Int → Int → Option (List Int)
 | 0, _, _, _, _ => none
 | k + 1, x3, x6, x7, x8 => if x8 < x7 then (if 0 ≤ x8 then (if x8 < (x6.length : Int) then ((utf_Valid.f (rd x6 x8)).bind fun t264 => (if t264 = true then (utf_Encode.j1 k x3 (rd x6 x8) x6 x7 x8) else (utf_Encode.j1 k x3 65533 x6 x7 x8))) else (none)) else (none)) else (some x3)
def utf_Encode.j1 : Nat → List Int → Int → List Int → Int → Int → Option (List Int)
 | 0, _, _, _, _, _ => none
 | k + 1, x3, x5, x6, x7, x8 => if x5 < 128 then (if x3.length < 140737488355328 then (utf_Encode.l0 k (x3 ++ [(x5) % 256]) x6 x7 (wrap64 (x8 + 1))) else (none)) else (if x5 < 2048 then ((some (([Go.bits .or .u8 192 ((x5 / 64) % 256), Go.bits .or .u8 128 ((Go.bits .and .i32 x5 63) % 256)] : List Int) : List Int)).bind fun y268 => (if x3.length + y268.length < 140737488355328 then (utf_Encode.l0 k (x3 ++ y268) x6 x7 (wrap64 (x8 + 1))) else (none))) else (if x5 < 65536 then ((some (([Go.bits .or .u8 224 ((x5 / 4096) % 256), Go.bits .or .u8 128 ((Go.bits .and .i32 (x5 / 64) 63) % 256), Go.bits .or .u8 128 ((Go.bits .and .i32 x5 63) % 256)] : List Int) : List Int)).bind fun y274 => (if x3.length + y274.length < 140737488355328 then (utf_Encode.l0 k (x3 ++ y274) x6 x7 (wrap64 (x8 + 1))) else (none))) else ((some (([Go.bits .or .u8 240 ((x5 / 262144) % 256), Go.bits .or .u8 128 ((Go.bits .and .i32 (x5 / 4096) 63) % 256), Go.bits .or .u8 128 ((Go.bits .and .i32 (x5 / 64) 63) % 256), Go.bits .or .u8 128 ((Go.bits .and .i32 x5 63) % 256)] : List Int) : List Int)).bind fun y280 => (if x3.length + y280.length < 140737488355328 then (utf_Encode.l0 k (x3 ++ y280) x6 x7 (wrap64 (x8 + 1))) else (none)))))
end
def utf_Encode.f (k : Nat) (l0 : List Int) : Option (List Int) := utf_Encode.l0 k ([] : List Int) l0 (l0.length : Int) 0
theorem utf_Encode.mono_l : ∀ k, (∀ y0 y1 y2 y3, LeO (utf_Encode.l0 k y0 y1 y2 y3) (utf_Encode.l0 (k + 1) y0 y1 y2 y3)) ∧ (∀ y0 y1 y2 y3 y4, LeO (utf_Encode.j1 k y0 y1 y2 y3 y4) (utf_Encode.j1 (k + 1) y0 y1 y2 y3 y4))
 | 0 => ⟨fun _ _ _ _ r h => by simp [utf_Encode.l0] at h, fun _ _ _ _ _ r h => by simp [utf_Encode.j1] at h⟩
 | k + 1 => by
  obtain ⟨ih0, ih1⟩ := utf_Encode.mono_l k; refine ⟨?_, ?_⟩
  ·intro y0 y1 y2 y3; unfold utf_Encode.l0; repeat' first | (with_reducible exact ih0 _ _ _ _) | (with_reducible exact ih1 _ _ _ _ _) | (with_reducible exact LeO.refl _) | (with_reducible exact LeO.none _) | (with_reducible refine LeO.ite ?_ ?_) | (with_reducible refine LeO.bind ?_ (fun _ => ?_)) | exact ih0 _ _ _ _ | exact ih1 _ _ _ _ _ | exact LeO.none _ | refine LeO.ite ?_ ?_ | refine LeO.bind ?_ (fun _ => ?_)
  ·intro y0 y1 y2 y3 y4; unfold utf_Encode.j1; repeat' first | (with_reducible exact ih0 _ _ _ _) | (with_reducible exact ih1 _ _ _ _ _) | (with_reducible exact LeO.refl _) | (with_reducible exact LeO.none _) | (with_reducible refine LeO.ite ?_ ?_) | (with_reducible refine LeO.bind ?_ (fun _ => ?_)) | exact ih0 _ _ _ _ | exact ih1 _ _ _ _ _ | exact LeO.none _ | refine LeO.ite ?_ ?_ | refine LeO.bind ?_ (fun _ => ?_)
theorem utf_Encode.mono : ∀ a0 k, LeO (utf_Encode.f k a0) (utf_Encode.f (k + 1) a0) := by
 intro a0 k; obtain ⟨ih0, ih1⟩ := utf_Encode.mono_l k; unfold utf_Encode.f; repeat' first | (with_reducible exact ih0 _ _ _ _) | (with_reducible exact ih1 _ _ _ _ _) | (with_reducible exact LeO.refl _) | (with_reducible exact LeO.none _) | (with_reducible refine LeO.ite ?_ ?_) | (with_reducible refine LeO.bind ?_ (fun _ => ?_)) | exact ih0 _ _ _ _ | exact ih1 _ _ _ _ _ | exact LeO.none _ | refine LeO.ite ?_ ?_ | refine LeO.bind ?_ (fun _ => ?_)
set_option maxHeartbeats 8000000 in
set_option maxRecDepth 100000 in
theorem utf_Encode.calls (k : Nat) (A0 : Option Addr) (c0 : Nat) (l0 : List Int) (r : List Int) (w : World) (hr0 : Kd.C (Kd.int .i32) w A0 l0.length l0) (hc0 : l0.length ≤ c0) (h : utf_Encode.f k l0 = some r) :
  Calls Tryd.prog 73 #[.slice A0 l0.length c0] w fun e w' => ∃ v0_ : Value, e = .returned (v0_) ∧ Kd.R (Kd.int .u8) 5 w' w.heap.size (fun _ => True) v0_ r ∧ Below w.heap.size w w' := by
 have HR0 := Aside0.mk hr0; have HC0 := Aside0.mk hc0; clear hr0 hc0; have HB := Aside0.mk (Below.refl w.heap.size w); have H : (utf_Encode.l0 k ([] : List Int) l0 (l0.length : Int) 0) = some r := h; clear h; have H' := Aside0.mk H; clear H; go_enter Tryd.func73, Tryd.ntmps73; go_wp2; go_loopg [3, 8] k (fun kq v3 v8 w' => ∃ (x3_1 : List Int) (x8_1 : Int), v8 = .int .i64 x8_1 ∧ Aside0 (utf_Encode.l0 kq x3_1 l0 (l0.length : Int) x8_1 = some r) ∧ Aside0 (kq ≤ k) ∧ Aside0 (Kd.R (Kd.int .u8) 5 w' w.heap.size (fun _ => True) v3 x3_1) ∧ Aside0 (Below w.heap.size w w'))
 case atStart => exact ⟨(([] : List Int)), (0), (by first | rfl | (simp; done) | (simp [*]; done)), H', ⟨Nat.le_refl _⟩, ⟨by first | exact Kd.R_nil _ _ _ _ _ | exact Kd.N_nil _ _ _ _ _ | exact Kd.V_nil _ _ _ _ _ | exact Kd.Q_nil _ _ _ _ _ | exact Kd.S_nil _ _ _ _ _⟩, ⟨by repeat (first | (with_reducible first | exact HB.out | apply below_alloc | apply pw_below_drewN | apply below_drew1) | exact HB.out)⟩⟩
 case round =>
  clear H'; obtain ⟨x3_1, x8_1, rfl, HA, HK1, HO_3, HB⟩ := hrel
  cases gk with
  | zero => exact absurd HA.out (by simp [utf_Encode.l0])
  | succ k1 =>
   have H := HA.out; clear HA; simp only [utf_Encode.l0] at H; by_cases c2 : x8_1 < (l0.length : Int)
   ·rw [if_pos c2] at H; have c2b0 : decide (x8_1 < (l0.length : Int)) = true := decide_eq_true c2; clear c2; by_cases c3 : 0 ≤ x8_1
    ·rw [if_pos c3] at H; have c3b0 : decide (0 ≤ x8_1) = true := decide_eq_true c3; clear c3; by_cases c4 : x8_1 < (l0.length : Int)
     ·rw [if_pos c4] at H; have c4b0 : decide (x8_1 < (l0.length : Int)) = true := decide_eq_true c4; clear c4; replace H := Option.bind_eq_some_iff.mp H; obtain ⟨t264, A50, H⟩ := H; (try dsimp only at H); have A5 := Aside0.mk A50; clear A50; have HC6 := Aside0.mk H; clear H; have p263 : 0 ≤ (x8_1 : Int) := of_decide_eq_true (by first | (with_reducible assumption) | assumption); have q263 : x8_1 < (l0.length : Int) := of_decide_eq_true (by first | (with_reducible assumption) | assumption); obtain ⟨ad263, e263, hx263_0⟩ := Kd.at_int HR0.out x8_1 p263 q263; cases e263; replace hx263_0 := (HB.out.cell (World.block_lt_of_cell? w _ hx263_0)).trans hx263_0; replace p263 := eq_true p263; replace q263 := eq_true q263; go_upto_if 14 with (first | ((with_reducible refine gate_callee (f := 94) rfl ?_); refine goesL_ (some 13) rfl rfl Tryd.func94 (by kernel_rfl) rfl #[.int .i32 (rd l0 x8_1)] rfl (by (try simp only [List.map_toArray, List.map_cons, List.map_nil]); first | done | rfl | (simp only [List.length_drop, List.length_take]; rfl)) ?_; (with_reducible refine (utf_Valid.calls (rd l0 x8_1) t264 _ A5.out).mono ?_); rintro e w' ⟨rfl, ⟨nd, rfl⟩⟩; refine ⟨_, rfl, ?_⟩))
      (try simp only [Act.put, List.setIfInBounds_toArray, List.set_cons_zero, List.set_cons_succ])
      go_cut [5] (fun v5 wc => ∃ (kq : Nat) (x5_5 : Int), v5 = .int .i32 x5_5 ∧ Aside0 (utf_Encode.j1 kq x3_1 x5_5 l0 (l0.length : Int) x8_1 = some r) ∧ Aside0 (kq ≤ k1) ∧ Aside0 (Kd.R (Kd.int .u8) 5 wc w.heap.size (fun _ => True) u3 x3_1) ∧ Aside0 (Below w.heap.size w wc))
      case first =>
       have H := HC6.out; clear HC6; by_cases c7 : t264 = true
       ·subst c7; rw [if_pos rfl] at H; have H' := Aside0.mk H; clear H; go_wp2; go_meet
        case rel => exact ⟨_, (rd l0 x8_1), (by first | rfl | (simp; done) | (simp [*]; done)), H', ⟨by have := HK1.out; first | omega | exact Nat.le_refl _⟩, ⟨by (with_reducible repeat (first | apply Kd.R_alloc | apply Kd.R_drewN | apply Kd.R_drew)); exact HO_3.out⟩, ⟨by repeat (first | (with_reducible first | exact HB.out | apply below_alloc | apply pw_below_drewN | apply below_drew1) | exact HB.out)⟩⟩
       ·replace c7 := Bool.eq_false_iff.mpr c7; subst c7; rw [if_neg (show ¬ (false = true) by decide)] at H; have H' := Aside0.mk H; clear H; go_wp2; go_meet
        case rel => exact ⟨_, (65533), (by first | rfl | (simp; done) | (simp [*]; done)), H', ⟨by have := HK1.out; first | omega | exact Nat.le_refl _⟩, ⟨by (with_reducible repeat (first | apply Kd.R_alloc | apply Kd.R_drewN | apply Kd.R_drew)); exact HO_3.out⟩, ⟨by repeat (first | (with_reducible first | exact HB.out | apply below_alloc | apply pw_below_drewN | apply below_drew1) | exact HB.out)⟩⟩
      case rest =>
       clear HC6; (try clear c2); (try clear c2b0); (try clear p2); (try clear q2); (try clear hx2); (try clear c3); (try clear c3b0); (try clear c4); (try clear c4b0); (try clear c7); (try clear hx263_0); (try clear p263); (try clear q263); obtain ⟨kq, x5_5, rfl, HA, HJ5, HO_3, HB⟩ := hcut
       cases kq with
       | zero => exact absurd HA.out (by simp [utf_Encode.j1])
       | succ kj5 =>
        have H := HA.out; clear HA; simp only [utf_Encode.j1] at H; by_cases c8 : x5_5 < 128
        ·rw [if_pos c8] at H; have c8b0 : decide (x5_5 < 128) = true := decide_eq_true c8; clear c8; by_cases c9 : x3_1.length < 140737488355328
         ·rw [if_pos c9] at H; have LMc9 := Aside0.mk c9; clear c9; obtain ⟨y265, hy265⟩ : ∃ y_ : List Int, y_ = (x3_1 ++ [(x5_5) % 256]) := ⟨_, rfl⟩; (replace H : (utf_Encode.l0 kj5 y265 l0 (l0.length : Int) (wrap64 (x8_1 + 1))) = some r := by first | (rw [hy265]; with_reducible exact H) | (have H2_ := (Option.bind_some _ _).symm.trans H; rw [hy265]; with_reducible exact H2_) | (have H2_ := (Option.bind_some _ _).symm.trans H; with_reducible exact H2_) | with_reducible exact H | (rw [hy265]; exact H) | exact H); have Ny265 := Aside0.mk hy265; clear hy265; have H' := Aside0.mk H; clear H; go_wp2_with (first | ((with_reducible refine gate_builtin (b := .append) (xs := #[.tmp 39, .tmp 42]) rfl ?_); at_builtin; refine Kd.R_append (Kd.int .u8) (w0 := w) w.heap.size rfl (.tmp 39) (.tmp 42) 23 5 (.int .u8 0) 1 rfl Tryd.underlying23 info5 rfl (by decide) (by omega) u3 x3_1 ((x5_5) % 256) [.int .u8 ((x5_5) % 256)] (fun _ => True) (fun _ => False) rfl rfl ?aP (fun _ hk => hk.elim) ?aF ?aO ?aB ?aS ?aL ?_; (case aP => exact rfl); (case aB => exact (by repeat (first | (with_reducible first | exact HB.out | apply below_alloc | apply pw_below_drewN | apply below_drew1) | exact HB.out))); (case aF => exact (fun _ _ => trivial)); (case aO => exact (by (with_reducible repeat (first | apply Kd.R_alloc | apply Kd.R_drewN | apply Kd.R_drew)); exact HO_3.out)); (case aS => exact (below_size (by repeat (first | (with_reducible first | exact HB.out | apply below_alloc | apply pw_below_drewN | apply below_drew1) | exact HB.out)))); (case aL => have := LMc9.out; omega); intro v266 w10 ho hb hg hat; rw [← Ny265.out] at ho; have n0_ := Aside0.mk (hb); have n1_ := Aside0.mk (ho); clear HB; clear HO_3; have HB := n0_; have HO267 := n1_; clear n0_ n1_; clear ho hb hg hat)); go_roundg kj5
          case measure => have := HK1.out; have := HJ5.out; omega
          case rel => exact ⟨(y265), (wrap64 (x8_1 + 1)), (by first | rfl | (simp; done) | (simp [*]; done)), H', ⟨by have := HK1.out; have := HJ5.out; omega⟩, ⟨by (with_reducible repeat (first | apply Kd.R_alloc | apply Kd.R_drewN | apply Kd.R_drew)); exact HO267.out⟩, ⟨by repeat (first | (with_reducible first | exact HB.out | apply below_alloc | apply pw_below_drewN | apply below_drew1) | exact HB.out)⟩⟩
         ·rw [if_neg c9] at H; exact absurd H (by simp)
        ·rw [if_neg c8] at H; have c8b0 : decide (x5_5 < 128) = false := decide_eq_false c8; clear c8; by_cases c11 : x5_5 < 2048
         ·rw [if_pos c11] at H; have c11b0 : decide (x5_5 < 2048) = true := decide_eq_true c11; clear c11; obtain ⟨y268, hy268⟩ : ∃ y_ : List Int, y_ = (([Go.bits .or .u8 192 ((x5_5 / 64) % 256), Go.bits .or .u8 128 ((Go.bits .and .i32 x5_5 63) % 256)] : List Int)) := ⟨_, rfl⟩; (replace H : (if x3_1.length + y268.length < 140737488355328 then (utf_Encode.l0 kj5 (x3_1 ++ y268) l0 (l0.length : Int) (wrap64 (x8_1 + 1))) else (none)) = some r := by first | (rw [hy268]; with_reducible exact H) | (have H2_ := (Option.bind_some _ _).symm.trans H; rw [hy268]; with_reducible exact H2_) | (have H2_ := (Option.bind_some _ _).symm.trans H; with_reducible exact H2_) | with_reducible exact H | (rw [hy268]; exact H) | exact H); have Ny268 := Aside0.mk hy268; clear hy268; by_cases c12 : x3_1.length + y268.length < 140737488355328
          ·rw [if_pos c12] at H; have LMc12 := Aside0.mk c12; clear c12; obtain ⟨y271, hy271⟩ : ∃ y_ : List Int, y_ = (x3_1 ++ y268) := ⟨_, rfl⟩; (replace H : (utf_Encode.l0 kj5 y271 l0 (l0.length : Int) (wrap64 (x8_1 + 1))) = some r := by first | (rw [hy271]; with_reducible exact H) | (have H2_ := (Option.bind_some _ _).symm.trans H; rw [hy271]; with_reducible exact H2_) | (have H2_ := (Option.bind_some _ _).symm.trans H; with_reducible exact H2_) | with_reducible exact H | (rw [hy271]; exact H) | exact H); have Ny271 := Aside0.mk hy271; clear hy271; have H' := Aside0.mk H; clear H; go_wp2_with (first | ((with_reducible refine gate_dst (N := 56) rfl ?_); refine Kd.R_lit (Kd.int .u8) _ 5 ?hg (N := 56) ?hd (xs := ([Go.bits .or .u8 192 ((x5_5 / 64) % 256), Go.bits .or .u8 128 ((Go.bits .and .i32 x5_5 63) % 256)] : List Int)) (inner := [.int .u8 (Go.bits .or .u8 192 ((x5_5 / 64) % 256)), .int .u8 (Go.bits .or .u8 128 ((Go.bits .and .i32 x5_5 63) % 256))]) (ok := fun _ => True) (okp := fun _ => True) ?hr ?hp (fun _ hk => hk) trivial (Below.refl _ _) (Nat.le_refl _) (by simp) ?_; (case hd => rfl); (case hg => rfl); (case hr => first | (go_simp; done) | (go_simp; rfl)); (case hp => exact (Reps.one (show Kd.M (Kd.int .u8) _ _ _ (Go.bits .or .u8 192 ((x5_5 / 64) % 256)) [.int .u8 (Go.bits .or .u8 192 ((x5_5 / 64) % 256))] from rfl) (Reps.one (show Kd.M (Kd.int .u8) _ _ _ (Go.bits .or .u8 128 ((Go.bits .and .i32 x5_5 63) % 256)) [.int .u8 (Go.bits .or .u8 128 ((Go.bits .and .i32 x5_5 63) % 256))] from rfl) (Reps.none _ _)))); intro v269 w13 ho14 hb hg_ hnew_; clear hg_ hnew_; (first | rw [← Ny268.out] at ho14 | (simp only [Int.reduceToNat] at ho14; rw [← Ny268.out] at ho14)); have n0_ := Aside0.mk (Kd.R_elder' (by (with_reducible repeat (first | apply Kd.R_alloc | apply Kd.R_drewN | apply Kd.R_drew)); exact HO_3.out) (Kd.R_base ho14) hb); have n1_ := Aside0.mk (Kd.R_lower (Kd.R_new' ho14 (Kd.R_lt (by (with_reducible repeat (first | apply Kd.R_alloc | apply Kd.R_drewN | apply Kd.R_drew)); exact HO_3.out))) (below_size (by repeat (first | (with_reducible first | exact HB.out | apply below_alloc | apply pw_below_drewN | apply below_drew1) | exact HB.out)))); have n2_ := Aside0.mk (below_step (by repeat (first | (with_reducible first | exact HB.out | apply below_alloc | apply pw_below_drewN | apply below_drew1) | exact HB.out)) hb); clear HO_3; clear HB; have HO_3 := n0_; have HO270 := n1_; have HB := n2_; clear n0_ n1_ n2_; clear hb ho14; obtain ⟨Ao16, co16, eo16⟩ := Kd.R_slice HO270.out; subst eo16) | ((with_reducible refine gate_builtin (b := .append) (xs := #[.tmp 47, .tmp 56]) rfl ?_); at_builtin; refine Kd.R_append_rows (Kd.int .u8) (w0 := w) w.heap.size rfl (.tmp 47) (.tmp 56) 23 5 (.int .u8 0) 1 rfl Tryd.underlying23 info5 rfl (by decide) (by omega) u3 x3_1 y268 _ _ _ (fun k_ => some k_ ≠ (.slice Ao16 y268.length co16 : Value).ownBlock) (fun _ => False) rfl rfl ?aO ?aR (fun _ _ h => h) (fun _ h => h.elim) ?aF ?aB ?aS ?aL ?_; (case aR => repeat (first | exact (Kd.R_reads' HO270.out).2.2 | (with_reducible refine Kd.C_alloc ?_ _) | (with_reducible refine Kd.C_drewN ?_ _) | (with_reducible refine Kd.C_drew ?_))); (case aB => exact (by repeat (first | (with_reducible first | exact HB.out | apply below_alloc | apply pw_below_drewN | apply below_drew1) | exact HB.out))); (case aF => exact (fun k_ hk => Kd.fresh' (Kd.R_lt (by (with_reducible repeat (first | apply Kd.R_alloc | apply Kd.R_drewN | apply Kd.R_drew)); exact HO270.out)) k_ hk)); (case aO => exact (by (with_reducible repeat (first | apply Kd.R_alloc | apply Kd.R_drewN | apply Kd.R_drew)); exact Kd.R_mono HO_3.out (fun _ hk => hk.2))); (case aS => exact (below_size (by repeat (first | (with_reducible first | exact HB.out | apply below_alloc | apply pw_below_drewN | apply below_drew1) | exact HB.out)))); (case aL => have := LMc12.out; omega); intro v272 w15 ho hb hg hat; rw [← Ny271.out] at ho; have n0_ := Aside0.mk (Kd.R_after (ok := (fun _ => True)) (by (with_reducible repeat (first | apply Kd.R_alloc | apply Kd.R_drewN | apply Kd.R_drew)); exact HO270.out) hg hat); have n1_ := Aside0.mk (hb); have n2_ := Aside0.mk (ho); clear HO270; clear HB; clear HO_3; have HO270 := n0_; have HB := n1_; have HO273 := n2_; clear n0_ n1_ n2_; clear ho hb hg hat)); go_roundg kj5
           case measure => have := HK1.out; have := HJ5.out; omega
           case rel => exact ⟨(y271), (wrap64 (x8_1 + 1)), (by first | rfl | (simp; done) | (simp [*]; done)), H', ⟨by have := HK1.out; have := HJ5.out; omega⟩, ⟨by (with_reducible repeat (first | apply Kd.R_alloc | apply Kd.R_drewN | apply Kd.R_drew)); exact Kd.R_mono HO273.out (fun _ hk => trivial)⟩, ⟨by repeat (first | (with_reducible first | exact HB.out | apply below_alloc | apply pw_below_drewN | apply below_drew1) | exact HB.out)⟩⟩
          ·rw [if_neg c12] at H; exact absurd H (by simp)
         ·rw [if_neg c11] at H; have c11b0 : decide (x5_5 < 2048) = false := decide_eq_false c11; clear c11; by_cases c17 : x5_5 < 65536
          ·rw [if_pos c17] at H; have c17b0 : decide (x5_5 < 65536) = true := decide_eq_true c17; clear c17; obtain ⟨y274, hy274⟩ : ∃ y_ : List Int, y_ = (([Go.bits .or .u8 224 ((x5_5 / 4096) % 256), Go.bits .or .u8 128 ((Go.bits .and .i32 (x5_5 / 64) 63) % 256), Go.bits .or .u8 128 ((Go.bits .and .i32 x5_5 63) % 256)] : List Int)) := ⟨_, rfl⟩; (replace H : (if x3_1.length + y274.length < 140737488355328 then (utf_Encode.l0 kj5 (x3_1 ++ y274) l0 (l0.length : Int) (wrap64 (x8_1 + 1))) else (none)) = some r := by first | (rw [hy274]; with_reducible exact H) | (have H2_ := (Option.bind_some _ _).symm.trans H; rw [hy274]; with_reducible exact H2_) | (have H2_ := (Option.bind_some _ _).symm.trans H; with_reducible exact H2_) | with_reducible exact H | (rw [hy274]; exact H) | exact H); have Ny274 := Aside0.mk hy274; clear hy274; by_cases c18 : x3_1.length + y274.length < 140737488355328
           ·rw [if_pos c18] at H; have LMc18 := Aside0.mk c18; clear c18; obtain ⟨y277, hy277⟩ : ∃ y_ : List Int, y_ = (x3_1 ++ y274) := ⟨_, rfl⟩; (replace H : (utf_Encode.l0 kj5 y277 l0 (l0.length : Int) (wrap64 (x8_1 + 1))) = some r := by first | (rw [hy277]; with_reducible exact H) | (have H2_ := (Option.bind_some _ _).symm.trans H; rw [hy277]; with_reducible exact H2_) | (have H2_ := (Option.bind_some _ _).symm.trans H; with_reducible exact H2_) | with_reducible exact H | (rw [hy277]; exact H) | exact H); have Ny277 := Aside0.mk hy277; clear hy277; have H' := Aside0.mk H; clear H; go_wp2_with (first | ((with_reducible refine gate_dst (N := 75) rfl ?_); refine Kd.R_lit (Kd.int .u8) _ 5 ?hg (N := 75) ?hd (xs := ([Go.bits .or .u8 224 ((x5_5 / 4096) % 256), Go.bits .or .u8 128 ((Go.bits .and .i32 (x5_5 / 64) 63) % 256), Go.bits .or .u8 128 ((Go.bits .and .i32 x5_5 63) % 256)] : List Int)) (inner := [.int .u8 (Go.bits .or .u8 224 ((x5_5 / 4096) % 256)), .int .u8 (Go.bits .or .u8 128 ((Go.bits .and .i32 (x5_5 / 64) 63) % 256)), .int .u8 (Go.bits .or .u8 128 ((Go.bits .and .i32 x5_5 63) % 256))]) (ok := fun _ => True) (okp := fun _ => True) ?hr ?hp (fun _ hk => hk) trivial (Below.refl _ _) (Nat.le_refl _) (by simp) ?_; (case hd => rfl); (case hg => rfl); (case hr => first | (go_simp; done) | (go_simp; rfl)); (case hp => exact (Reps.one (show Kd.M (Kd.int .u8) _ _ _ (Go.bits .or .u8 224 ((x5_5 / 4096) % 256)) [.int .u8 (Go.bits .or .u8 224 ((x5_5 / 4096) % 256))] from rfl) (Reps.one (show Kd.M (Kd.int .u8) _ _ _ (Go.bits .or .u8 128 ((Go.bits .and .i32 (x5_5 / 64) 63) % 256)) [.int .u8 (Go.bits .or .u8 128 ((Go.bits .and .i32 (x5_5 / 64) 63) % 256))] from rfl) (Reps.one (show Kd.M (Kd.int .u8) _ _ _ (Go.bits .or .u8 128 ((Go.bits .and .i32 x5_5 63) % 256)) [.int .u8 (Go.bits .or .u8 128 ((Go.bits .and .i32 x5_5 63) % 256))] from rfl) (Reps.none _ _))))); intro v275 w19 ho20 hb hg_ hnew_; clear hg_ hnew_; (first | rw [← Ny274.out] at ho20 | (simp only [Int.reduceToNat] at ho20; rw [← Ny274.out] at ho20)); have n0_ := Aside0.mk (Kd.R_elder' (by (with_reducible repeat (first | apply Kd.R_alloc | apply Kd.R_drewN | apply Kd.R_drew)); exact HO_3.out) (Kd.R_base ho20) hb); have n1_ := Aside0.mk (Kd.R_lower (Kd.R_new' ho20 (Kd.R_lt (by (with_reducible repeat (first | apply Kd.R_alloc | apply Kd.R_drewN | apply Kd.R_drew)); exact HO_3.out))) (below_size (by repeat (first | (with_reducible first | exact HB.out | apply below_alloc | apply pw_below_drewN | apply below_drew1) | exact HB.out)))); have n2_ := Aside0.mk (below_step (by repeat (first | (with_reducible first | exact HB.out | apply below_alloc | apply pw_below_drewN | apply below_drew1) | exact HB.out)) hb); clear HO_3; clear HB; have HO_3 := n0_; have HO276 := n1_; have HB := n2_; clear n0_ n1_ n2_; clear hb ho20; obtain ⟨Ao22, co22, eo22⟩ := Kd.R_slice HO276.out; subst eo22) | ((with_reducible refine gate_builtin (b := .append) (xs := #[.tmp 61, .tmp 75]) rfl ?_); at_builtin; refine Kd.R_append_rows (Kd.int .u8) (w0 := w) w.heap.size rfl (.tmp 61) (.tmp 75) 23 5 (.int .u8 0) 1 rfl Tryd.underlying23 info5 rfl (by decide) (by omega) u3 x3_1 y274 _ _ _ (fun k_ => some k_ ≠ (.slice Ao22 y274.length co22 : Value).ownBlock) (fun _ => False) rfl rfl ?aO ?aR (fun _ _ h => h) (fun _ h => h.elim) ?aF ?aB ?aS ?aL ?_; (case aR => repeat (first | exact (Kd.R_reads' HO276.out).2.2 | (with_reducible refine Kd.C_alloc ?_ _) | (with_reducible refine Kd.C_drewN ?_ _) | (with_reducible refine Kd.C_drew ?_))); (case aB => exact (by repeat (first | (with_reducible first | exact HB.out | apply below_alloc | apply pw_below_drewN | apply below_drew1) | exact HB.out))); (case aF => exact (fun k_ hk => Kd.fresh' (Kd.R_lt (by (with_reducible repeat (first | apply Kd.R_alloc | apply Kd.R_drewN | apply Kd.R_drew)); exact HO276.out)) k_ hk)); (case aO => exact (by (with_reducible repeat (first | apply Kd.R_alloc | apply Kd.R_drewN | apply Kd.R_drew)); exact Kd.R_mono HO_3.out (fun _ hk => hk.2))); (case aS => exact (below_size (by repeat (first | (with_reducible first | exact HB.out | apply below_alloc | apply pw_below_drewN | apply below_drew1) | exact HB.out)))); (case aL => have := LMc18.out; omega); intro v278 w21 ho hb hg hat; rw [← Ny277.out] at ho; have n0_ := Aside0.mk (Kd.R_after (ok := (fun _ => True)) (by (with_reducible repeat (first | apply Kd.R_alloc | apply Kd.R_drewN | apply Kd.R_drew)); exact HO276.out) hg hat); have n1_ := Aside0.mk (hb); have n2_ := Aside0.mk (ho); clear HO276; clear HB; clear HO_3; have HO276 := n0_; have HB := n1_; have HO279 := n2_; clear n0_ n1_ n2_; clear ho hb hg hat)); go_roundg kj5
            case measure => have := HK1.out; have := HJ5.out; omega
            case rel => exact ⟨(y277), (wrap64 (x8_1 + 1)), (by first | rfl | (simp; done) | (simp [*]; done)), H', ⟨by have := HK1.out; have := HJ5.out; omega⟩, ⟨by (with_reducible repeat (first | apply Kd.R_alloc | apply Kd.R_drewN | apply Kd.R_drew)); exact Kd.R_mono HO279.out (fun _ hk => trivial)⟩, ⟨by repeat (first | (with_reducible first | exact HB.out | apply below_alloc | apply pw_below_drewN | apply below_drew1) | exact HB.out)⟩⟩
           ·rw [if_neg c18] at H; exact absurd H (by simp)
          ·rw [if_neg c17] at H; have c17b0 : decide (x5_5 < 65536) = false := decide_eq_false c17; clear c17; obtain ⟨y280, hy280⟩ : ∃ y_ : List Int, y_ = (([Go.bits .or .u8 240 ((x5_5 / 262144) % 256), Go.bits .or .u8 128 ((Go.bits .and .i32 (x5_5 / 4096) 63) % 256), Go.bits .or .u8 128 ((Go.bits .and .i32 (x5_5 / 64) 63) % 256), Go.bits .or .u8 128 ((Go.bits .and .i32 x5_5 63) % 256)] : List Int)) := ⟨_, rfl⟩; (replace H : (if x3_1.length + y280.length < 140737488355328 then (utf_Encode.l0 kj5 (x3_1 ++ y280) l0 (l0.length : Int) (wrap64 (x8_1 + 1))) else (none)) = some r := by first | (rw [hy280]; with_reducible exact H) | (have H2_ := (Option.bind_some _ _).symm.trans H; rw [hy280]; with_reducible exact H2_) | (have H2_ := (Option.bind_some _ _).symm.trans H; with_reducible exact H2_) | with_reducible exact H | (rw [hy280]; exact H) | exact H); have Ny280 := Aside0.mk hy280; clear hy280; by_cases c23 : x3_1.length + y280.length < 140737488355328
           ·rw [if_pos c23] at H; have LMc23 := Aside0.mk c23; clear c23; obtain ⟨y283, hy283⟩ : ∃ y_ : List Int, y_ = (x3_1 ++ y280) := ⟨_, rfl⟩; (replace H : (utf_Encode.l0 kj5 y283 l0 (l0.length : Int) (wrap64 (x8_1 + 1))) = some r := by first | (rw [hy283]; with_reducible exact H) | (have H2_ := (Option.bind_some _ _).symm.trans H; rw [hy283]; with_reducible exact H2_) | (have H2_ := (Option.bind_some _ _).symm.trans H; with_reducible exact H2_) | with_reducible exact H | (rw [hy283]; exact H) | exact H); have Ny283 := Aside0.mk hy283; clear hy283; have H' := Aside0.mk H; clear H; go_wp2_with (first | ((with_reducible refine gate_dst (N := 34) rfl ?_); refine Kd.R_lit (Kd.int .u8) _ 5 ?hg (N := 34) ?hd (xs := ([Go.bits .or .u8 240 ((x5_5 / 262144) % 256), Go.bits .or .u8 128 ((Go.bits .and .i32 (x5_5 / 4096) 63) % 256), Go.bits .or .u8 128 ((Go.bits .and .i32 (x5_5 / 64) 63) % 256), Go.bits .or .u8 128 ((Go.bits .and .i32 x5_5 63) % 256)] : List Int)) (inner := [.int .u8 (Go.bits .or .u8 240 ((x5_5 / 262144) % 256)), .int .u8 (Go.bits .or .u8 128 ((Go.bits .and .i32 (x5_5 / 4096) 63) % 256)), .int .u8 (Go.bits .or .u8 128 ((Go.bits .and .i32 (x5_5 / 64) 63) % 256)), .int .u8 (Go.bits .or .u8 128 ((Go.bits .and .i32 x5_5 63) % 256))]) (ok := fun _ => True) (okp := fun _ => True) ?hr ?hp (fun _ hk => hk) trivial (Below.refl _ _) (Nat.le_refl _) (by simp) ?_; (case hd => rfl); (case hg => rfl); (case hr => first | (go_simp; done) | (go_simp; rfl)); (case hp => exact (Reps.one (show Kd.M (Kd.int .u8) _ _ _ (Go.bits .or .u8 240 ((x5_5 / 262144) % 256)) [.int .u8 (Go.bits .or .u8 240 ((x5_5 / 262144) % 256))] from rfl) (Reps.one (show Kd.M (Kd.int .u8) _ _ _ (Go.bits .or .u8 128 ((Go.bits .and .i32 (x5_5 / 4096) 63) % 256)) [.int .u8 (Go.bits .or .u8 128 ((Go.bits .and .i32 (x5_5 / 4096) 63) % 256))] from rfl) (Reps.one (show Kd.M (Kd.int .u8) _ _ _ (Go.bits .or .u8 128 ((Go.bits .and .i32 (x5_5 / 64) 63) % 256)) [.int .u8 (Go.bits .or .u8 128 ((Go.bits .and .i32 (x5_5 / 64) 63) % 256))] from rfl) (Reps.one (show Kd.M (Kd.int .u8) _ _ _ (Go.bits .or .u8 128 ((Go.bits .and .i32 x5_5 63) % 256)) [.int .u8 (Go.bits .or .u8 128 ((Go.bits .and .i32 x5_5 63) % 256))] from rfl) (Reps.none _ _)))))); intro v281 w24 ho25 hb hg_ hnew_; clear hg_ hnew_; (first | rw [← Ny280.out] at ho25 | (simp only [Int.reduceToNat] at ho25; rw [← Ny280.out] at ho25)); have n0_ := Aside0.mk (Kd.R_elder' (by (with_reducible repeat (first | apply Kd.R_alloc | apply Kd.R_drewN | apply Kd.R_drew)); exact HO_3.out) (Kd.R_base ho25) hb); have n1_ := Aside0.mk (Kd.R_lower (Kd.R_new' ho25 (Kd.R_lt (by (with_reducible repeat (first | apply Kd.R_alloc | apply Kd.R_drewN | apply Kd.R_drew)); exact HO_3.out))) (below_size (by repeat (first | (with_reducible first | exact HB.out | apply below_alloc | apply pw_below_drewN | apply below_drew1) | exact HB.out)))); have n2_ := Aside0.mk (below_step (by repeat (first | (with_reducible first | exact HB.out | apply below_alloc | apply pw_below_drewN | apply below_drew1) | exact HB.out)) hb); clear HO_3; clear HB; have HO_3 := n0_; have HO282 := n1_; have HB := n2_; clear n0_ n1_ n2_; clear hb ho25; obtain ⟨Ao27, co27, eo27⟩ := Kd.R_slice HO282.out; subst eo27) | ((with_reducible refine gate_builtin (b := .append) (xs := #[.tmp 15, .tmp 34]) rfl ?_); at_builtin; refine Kd.R_append_rows (Kd.int .u8) (w0 := w) w.heap.size rfl (.tmp 15) (.tmp 34) 23 5 (.int .u8 0) 1 rfl Tryd.underlying23 info5 rfl (by decide) (by omega) u3 x3_1 y280 _ _ _ (fun k_ => some k_ ≠ (.slice Ao27 y280.length co27 : Value).ownBlock) (fun _ => False) rfl rfl ?aO ?aR (fun _ _ h => h) (fun _ h => h.elim) ?aF ?aB ?aS ?aL ?_; (case aR => repeat (first | exact (Kd.R_reads' HO282.out).2.2 | (with_reducible refine Kd.C_alloc ?_ _) | (with_reducible refine Kd.C_drewN ?_ _) | (with_reducible refine Kd.C_drew ?_))); (case aB => exact (by repeat (first | (with_reducible first | exact HB.out | apply below_alloc | apply pw_below_drewN | apply below_drew1) | exact HB.out))); (case aF => exact (fun k_ hk => Kd.fresh' (Kd.R_lt (by (with_reducible repeat (first | apply Kd.R_alloc | apply Kd.R_drewN | apply Kd.R_drew)); exact HO282.out)) k_ hk)); (case aO => exact (by (with_reducible repeat (first | apply Kd.R_alloc | apply Kd.R_drewN | apply Kd.R_drew)); exact Kd.R_mono HO_3.out (fun _ hk => hk.2))); (case aS => exact (below_size (by repeat (first | (with_reducible first | exact HB.out | apply below_alloc | apply pw_below_drewN | apply below_drew1) | exact HB.out)))); (case aL => have := LMc23.out; omega); intro v284 w26 ho hb hg hat; rw [← Ny283.out] at ho; have n0_ := Aside0.mk (Kd.R_after (ok := (fun _ => True)) (by (with_reducible repeat (first | apply Kd.R_alloc | apply Kd.R_drewN | apply Kd.R_drew)); exact HO282.out) hg hat); have n1_ := Aside0.mk (hb); have n2_ := Aside0.mk (ho); clear HO282; clear HB; clear HO_3; have HO282 := n0_; have HB := n1_; have HO285 := n2_; clear n0_ n1_ n2_; clear ho hb hg hat)); go_roundg kj5
            case measure => have := HK1.out; have := HJ5.out; omega
            case rel => exact ⟨(y283), (wrap64 (x8_1 + 1)), (by first | rfl | (simp; done) | (simp [*]; done)), H', ⟨by have := HK1.out; have := HJ5.out; omega⟩, ⟨by (with_reducible repeat (first | apply Kd.R_alloc | apply Kd.R_drewN | apply Kd.R_drew)); exact Kd.R_mono HO285.out (fun _ hk => trivial)⟩, ⟨by repeat (first | (with_reducible first | exact HB.out | apply below_alloc | apply pw_below_drewN | apply below_drew1) | exact HB.out)⟩⟩
           ·rw [if_neg c23] at H; exact absurd H (by simp)
     ·rw [if_neg c4] at H; exact absurd H (by simp)
    ·rw [if_neg c3] at H; exact absurd H (by simp)
   ·rw [if_neg c2] at H; have c2b0 : decide (x8_1 < (l0.length : Int)) = false := decide_eq_false c2; clear c2; obtain rfl := Option.some.inj H; go_wp2; go_ret; exact ⟨_, by first | rfl | (simp [errW_none, errW_some] <;> rfl) | (simp [*, errW_none, errW_some] <;> rfl), by (with_reducible repeat (first | apply Kd.R_alloc | apply Kd.R_drewN | apply Kd.R_drew)); exact HO_3.out, by repeat (first | (with_reducible first | exact HB.out | apply below_alloc | apply pw_below_drewN | apply below_drew1) | exact HB.out)⟩
end Go.Proofs.YthffpkdadffinaaDoor.X
