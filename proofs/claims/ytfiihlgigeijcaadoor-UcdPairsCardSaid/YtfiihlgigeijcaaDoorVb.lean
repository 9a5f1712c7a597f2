/-
  ucd.Category walked.
-/
import Derived.Test.YtfiihlgigeijcaaDoorVa
import Derived.Test.YtfiihlgigeijcaaDoorXucdlisted
namespace Go.Proofs.YtfiihlgigeijcaaDoor.Vb
set_option linter.unusedVariables false
set_option linter.unusedSimpArgs false
open Go.RowKit Go.Proofs.YtfiihlgigeijcaaDoorW.PrintWords Go.Proofs.YtfiihlgigeijcaaDoor.Hp Go.Proofs.YtfiihlgigeijcaaDoor.Va Go.Proofs.YtfiihlgigeijcaaDoor.X

def inR (r : Int) (x : S41) : Bool := decide (x.f0 ≤ r) && decide (r ≤ x.f1)
set_option maxRecDepth 100000 in
theorem CloP (w : World) (g : Nat) (r lo hi : Int) (hb : w.heap[g]? = some (.cells #[.int .i32 r] 21 (0, 0))) :
    Calls Tryd.prog 34 #[.agg #[.int .i32 lo, .int .i32 hi], .pointer (some ⟨g, 0, none⟩)] w fun e w' => e = .returned (.bool (decide (lo ≤ r) && decide (r ≤ hi))) ∧ Below w.heap.size w w' := by
  have hu41 := Tryd.underlying41
  have hgl := blk_lt hb
  have hc0 := blk_cell hb 0
  have NB := Aside0.mk (below_alloc (Below.refl w.heap.size w) (.cells #[.int .i32 lo, .int .i32 hi] 41))
  clear hb
  by_cases h1 : lo ≤ r
  · have d1 : decide (lo ≤ r) = true := decide_eq_true h1
    by_cases h2 : r ≤ hi
    · have d2 : decide (r ≤ hi) = true := decide_eq_true h2
      go_enter Tryd.func34, Tryd.ntmps34
      go_wp2
      go_ret
      exact ⟨by first | rfl | (rw [d1, d2]; rfl), NB.out⟩
    · have d2 : decide (r ≤ hi) = false := decide_eq_false h2
      go_enter Tryd.func34, Tryd.ntmps34
      go_wp2
      go_ret
      exact ⟨by first | rfl | (rw [d1, d2]; rfl), NB.out⟩
  · have d1 : decide (lo ≤ r) = false := decide_eq_false h1
    go_enter Tryd.func34, Tryd.ntmps34
    go_wp2
    go_ret
    exact ⟨by first | rfl | (rw [d1]; rfl), NB.out⟩
theorem ranges_at {w : World} {A : Option Addr} {n : Nat} {l : List S41} (h : Kd.C k41 w A n l) (j : Nat) (hj : j < n) : ∃ ad, A = some ad ∧ w.cell? (ad.add (j * 2)) = some (.int .i32 (rd_T41 l j).f0) ∧ w.cell? ⟨(ad.add (j * 2)).block, (ad.add (j * 2)).off + 1, none⟩ = some (.int .i32 (rd_T41 l j).f1) := by
  have := at_T41 h (j : Int) (by omega) (by omega)
  rw [Int.toNat_natCast] at this
  exact this
set_option maxRecDepth 100000 in
set_option maxHeartbeats 1000000 in
theorem IdxP (w : World) (A : Option Addr) (n c : Nat) (l : List S41) (hC : Kd.C k41 w A n l) (hn : n = l.length) (hn5 : n ≤ 1000000) (g : Nat) (r : Int) (hb : w.heap[g]? = some (.cells #[.int .i32 r] 21 (0, 0))) :
    Calls Tryd.prog 46 #[.slice A n c, .func (.func 34) #[] #[.pointer (some ⟨g, 0, none⟩)]] w fun e w' => ∃ z : Int, e = .returned (.int .i64 z) ∧ decide (0 ≤ z) = l.any (inR r) ∧ Below w.heap.size w w' := by
  have hu41 := Tryd.underlying41
  have HC := Aside0.mk hC
  have HN := Aside0.mk hn
  have HB := Aside0.mk hb
  clear hC hn hb
  go_enter Tryd.func46, Tryd.ntmps46
  go_wp2
  go_loopw [8] (fun iv wr => ∃ i : Nat, i ≤ n ∧ iv = .int .i64 i ∧ Aside0 (l.any (inR r) = (l.drop i).any (inR r)) ∧ Aside0 (Below w.heap.size w wr)) (fun iv _ => n - (intOf iv).toNat)
  case atStart => exact ⟨0, Nat.zero_le _, rfl, ⟨rfl⟩, ⟨Below.refl _ _⟩⟩
  case round =>
    obtain ⟨i, hi, rfl, HE, HW⟩ := hrel
    by_cases hlt : i < n
    · have hd : decide ((i : Int) < (n : Int)) = true := decide_eq_true (by omega)
      obtain ⟨ad, rfl, x0, x1⟩ := ranges_at HC.out i hlt
      have y0 := (HW.out.cell (World.block_lt_of_cell? w _ x0)).trans x0
      have y1 := (HW.out.cell (World.block_lt_of_cell? w _ x1)).trans x1
      have hdr : l.drop i = rd_T41 l i :: l.drop (i + 1) := by
        have h1 : i < l.length := by rw [← HN.out]; exact hlt
        rw [List.drop_eq_getElem_cons h1]
        unfold rd_T41
        simp [List.getElem?_eq_getElem h1]
      have he := HE.out
      rw [hdr, List.any_cons] at he
      obtain ⟨⟨lo, hi'⟩, hp⟩ : ∃ p, p = rd_T41 l i := ⟨_, rfl⟩
      rw [← hp] at y0 y1 he
      simp only at y0 y1
      clear x0 x1 hdr hp
      have hin : inR r ⟨lo, hi'⟩ = (decide (lo ≤ r) && decide (r ≤ hi')) := rfl
      rw [hin] at he
      have HB2 := Aside0.mk ((HW.out.block g (blk_lt HB.out)).trans HB.out)
      cases hbb : (decide (lo ≤ r) && decide (r ≤ hi')) with
      | true =>
        rw [hbb, Bool.true_or] at he
        have HE1 := Aside0.mk he
        have HBB := Aside0.mk hbb
        clear he hbb hin HE
        go_wp2_with (first | (go_at_call 34; go_must (refine (CloP wr g r lo hi' HB2.out).mono ?_; rintro e w3 ⟨rfl, p1⟩; rw [HBB.out]; have B3 := Aside0.mk (below_then HW.out HW.out.size p1); clear p1)))
        go_ret
        exact ⟨_, rfl, by rw [HE1.out]; simp, B3.out⟩
      | false =>
        rw [hbb, Bool.false_or] at he
        have HE1 := Aside0.mk he
        have HBB := Aside0.mk hbb
        clear he hbb hin HE
        go_wp2_with (first | (go_at_call 34; go_must (refine (CloP wr g r lo hi' HB2.out).mono ?_; rintro e w3 ⟨rfl, p1⟩; rw [HBB.out]; have B3 := Aside0.mk (below_then HW.out HW.out.size p1); clear p1)))
        go_roundw
        case rel => exact ⟨i + 1, by omega, by go_num, HE1, B3⟩
        case measure => simp [intOf]; omega
    · have hd : decide ((i : Int) < (n : Int)) = false := decide_eq_false (by omega)
      obtain rfl : i = n := by omega
      have he := HE.out
      rw [HN.out, List.drop_of_length_le (Nat.le_refl _)] at he
      have HE1 := Aside0.mk he
      clear he
      go_wp2
      go_ret
      exact ⟨-1, rfl, by rw [HE1.out]; rfl, HW.out⟩
set_option maxRecDepth 100000 in
theorem HasP (w : World) (A : Option Addr) (n c : Nat) (l : List S41) (hC : Kd.C k41 w A n l) (hn : n = l.length) (hn5 : n ≤ 1000000) (g : Nat) (r : Int) (hb : w.heap[g]? = some (.cells #[.int .i32 r] 21 (0, 0))) :
    Calls Tryd.prog 32 #[.slice A n c, .func (.func 34) #[] #[.pointer (some ⟨g, 0, none⟩)]] w fun e w' => e = .returned (.bool (l.any (inR r))) ∧ Below w.heap.size w w' := by
  have HC := Aside0.mk hC
  have HN := Aside0.mk hn
  have HB := Aside0.mk hb
  clear hC hn hb
  go_enter Tryd.func32, Tryd.ntmps32
  go_wp2_with (first | (go_at_call 46; go_must (refine (IdxP w A n c l HC.out HN.out hn5 g r HB.out).mono ?_; rintro e w3 ⟨z, rfl, p1, p2⟩; have P1 := Aside0.mk p1; have B3 := Aside0.mk p2; clear p1 p2)))
  go_ret
  exact ⟨by rw [← P1.out]; rfl, B3.out⟩
/-! Category -/
def lst (k : Int) : List S41 := (ucd_listed.f k).getD []
theorem lst_some (k : Nat) (h : 1 ≤ k ∧ k ≤ 6) : ucd_listed.f k = some (lst k) := by
  have : k = 1 ∨ k = 2 ∨ k = 3 ∨ k = 4 ∨ k = 5 ∨ k = 6 := by omega
  rcases this with rfl | rfl | rfl | rfl | rfl | rfl <;> rfl
theorem lst_len (k : Nat) (h : 1 ≤ k ∧ k ≤ 6) : (lst k).length ≤ 100 := by
  have : k = 1 ∨ k = 2 ∨ k = 3 ∨ k = 4 ∨ k = 5 ∨ k = 6 := by omega
  rcases this with rfl | rfl | rfl | rfl | rfl | rfl <;> decide
/-- The first category from k on, of fuel m, whose ranges hold r; else 7. -/
def catF (r : Int) : Nat → Nat → Int
  | 0, _ => 7
  | m + 1, k => if (lst k).any (inR r) = true then k else catF r m (k + 1)
def cat (r : Int) : Int := catF r 6 1
set_option maxRecDepth 100000 in
set_option maxHeartbeats 1000000 in
theorem CatP (w : World) (r : Int) : Calls Tryd.prog 14 #[.int .i32 r] w fun e w' => e = .returned (.int .i64 (cat r)) ∧ Below w.heap.size w w' := by
  have NB := Aside0.mk (below_alloc (Below.refl w.heap.size w) (.cells #[.int .i32 r] 21))
  have NK := Aside0.mk (heap_alloc_new w (.cells #[.int .i32 r] 21))
  go_enter Tryd.func14, Tryd.ntmps14
  go_wp2
  go_loopw [3] (fun kv wr => ∃ k : Nat, 1 ≤ k ∧ k ≤ 7 ∧ kv = .int .i64 k ∧ Aside0 (cat r = catF r (7 - k) k) ∧ Aside0 (Below w.heap.size w wr) ∧ Aside0 (wr.heap[w.heap.size]? = some (.cells #[.int .i32 r] 21 (0, 0)))) (fun kv _ => 7 - (intOf kv).toNat)
  case atStart => exact ⟨1, by omega, by omega, rfl, ⟨rfl⟩, NB, NK⟩
  case round =>
    obtain ⟨k, h1, h7, rfl, HE, HW, HK⟩ := hrel
    by_cases hlt : k < 7
    · have hd : decide ((k : Int) < 7) = true := decide_eq_true (by omega)
      have HL := Aside0.mk (lst_some k ⟨h1, by omega⟩)
      have hll := lst_len k ⟨h1, by omega⟩
      obtain ⟨l, hl⟩ : ∃ l, l = lst k := ⟨_, rfl⟩
      obtain ⟨q, hq⟩ : ∃ q, q = l.length := ⟨_, rfl⟩
      have he := HE.out
      rw [show 7 - k = (6 - k) + 1 by omega, catF] at he
      rw [← hl] at HL hll he
      rw [← hq] at hll
      have HQ := Aside0.mk hq
      clear hl hq
      cases hb : l.any (inR r) with
      | true =>
        rw [hb, if_pos rfl] at he
        have HE1 := Aside0.mk he
        have HBB := Aside0.mk hb
        clear he hb
        go_wp2_with (first | (go_at_call 33; go_must (refine (ucd_listed.calls k l wr HL.out).mono ?_; rintro e w2 ⟨v2, rfl, p1, p2⟩; obtain ⟨A2, c2, rfl, -, p3⟩ := Kd.R_reads p1; rw [← HQ.out] at p3 ⊢; have C2 := Aside0.mk p3; have B2 := Aside0.mk (below_then HW.out HW.out.size p2); have K2 := Aside0.mk ((p2.block _ (blk_lt HK.out)).trans HK.out); clear p1 p2 p3)) | (go_at_call 32; go_must (refine (HasP w2 A2 q c2 l C2.out HQ.out (by omega) w.heap.size r K2.out).mono ?_; rintro e w3 ⟨rfl, p1⟩; rw [HBB.out]; have B3 := Aside0.mk (below_then B2.out B2.out.size p1); clear p1)))
        go_ret
        exact ⟨by rw [HE1.out]; rfl, B3.out⟩
      | false =>
        rw [hb, if_neg (by decide)] at he
        have HE1 := Aside0.mk (show cat r = catF r (7 - (k + 1)) (k + 1) by rw [he]; congr 1; omega)
        have HBB := Aside0.mk hb
        clear he hb
        go_wp2_with (first | (go_at_call 33; go_must (refine (ucd_listed.calls k l wr HL.out).mono ?_; rintro e w2 ⟨v2, rfl, p1, p2⟩; obtain ⟨A2, c2, rfl, -, p3⟩ := Kd.R_reads p1; rw [← HQ.out] at p3 ⊢; have C2 := Aside0.mk p3; have B2 := Aside0.mk (below_then HW.out HW.out.size p2); have K2 := Aside0.mk ((p2.block _ (blk_lt HK.out)).trans HK.out); clear p1 p2 p3)) | (go_at_call 32; go_must (refine (HasP w2 A2 q c2 l C2.out HQ.out (by omega) w.heap.size r K2.out).mono ?_; rintro e w3 ⟨rfl, p1⟩; rw [HBB.out]; have B3 := Aside0.mk (below_then B2.out B2.out.size p1); have K3 := Aside0.mk ((p1.block _ (blk_lt K2.out)).trans K2.out); clear p1)))
        go_roundw
        case rel => exact ⟨k + 1, by omega, by omega, by go_num, HE1, B3, K3⟩
        case measure => simp [intOf]; omega
    · have hd : decide ((k : Int) < 7) = false := decide_eq_false (by omega)
      obtain rfl : k = 7 := by omega
      have HE1 := Aside0.mk (show cat r = 7 from HE.out)
      go_wp2
      go_ret
      exact ⟨by rw [HE1.out]; rfl, HW.out⟩
end Go.Proofs.YtfiihlgigeijcaaDoor.Vb
namespace Go.Proofs.YtfiihlgigeijcaaDoor.X
open Go.RowKit Go.Proofs.YtfiihlgigeijcaaDoorW.PrintWords
def ucd_Category.f (a0 : Int) : Option Int := some (Vb.cat a0)
theorem ucd_Category.calls (a0 : Int) (r : Int) (w : World) (h : ucd_Category.f a0 = some r) : Calls Tryd.prog 14 #[.int .i32 a0] w fun e w' => e = .returned (.int .i64 r) ∧ Below w.heap.size w w' := by
  obtain rfl := Option.some.inj h
  exact Vb.CatP w a0
end Go.Proofs.YtfiihlgigeijcaaDoor.X
