/-
  Several texts of this claim in one: what its law's proof uses.
-/
import Derived.Test.YtdambnclbpipdaaGreatDoorMMR2
import Derived.Test.YtdambnclbpipdaaGreatDoorMMR1
import Derived.WalkSpells
import Derived.WalkLawsBesides
import Derived.Deep.RegionHeld3
import Derived.Deep.DeepCutAuto
import Derived.BigQuiet
import Derived.Lib.SlBytesConst
namespace Go.Proofs.YtdambnclbpipdaaGreatDoor.Ux
set_option linter.unusedVariables false
set_option linter.unusedSimpArgs false
open Go.RowKit Go.Proofs.YtdambnclbpipdaaGreatDoorW.PrintWords Go.Proofs.YtdambnclbpipdaaGreatDoor.Hp Go.Proofs.YtdambnclbpipdaaGreatDoor.X
def flat : List (Int × Int) → List Int
  | [] => []
  | (a, b) :: l => a :: b :: flat l
theorem flat_len : ∀ bs, (flat bs).length = 2 * bs.length
  | [] => rfl
  | (a, b) :: l => by simp [flat, flat_len l]; omega
def fold (r : Int) (l : List Int) : Int := l.foldl (fun r x => r * 64 + x % 64) r
theorem step_r2 (r x : Int) (h0 : 0 ≤ r) (hr : (r + 1) * 64 ≤ 2097152) (hx : 0 ≤ x ∧ x ≤ 255) : wrap32 ((wrap32 (r * 64)) + (Int.tmod (wrap32 x) 64)) = r * 64 + x % 64 := by
  have e1 : wrap32 (r * 64) = r * 64 := by unfold wrap32; omega
  have e2 : wrap32 x = x := by unfold wrap32; omega
  rw [e1, e2, Int.tmod_eq_emod_of_nonneg hx.1]
  unfold wrap32
  omega
theorem l1_step (l : List Int) (hl : l.length ≤ 140737488355328) (at_ n j k : Nat) (r : Int) (h1 : j < n) (hlt : at_ + j < l.length) (x : Int) (hxe : x = l[at_ + j]) (hx : 0 ≤ x ∧ x ≤ 255) (h0 : 0 ≤ r) (hr : (r + 1) * 64 ≤ 2097152) :
    tremaref01_At.l1 (k + 1) l at_ (n : Int) r j = tremaref01_At.l1 k l at_ (n : Int) (r * 64 + x % 64) ((j + 1 : Nat) : Int) := by
  have ea : wrap64 ((at_ : Int) + j) = ((at_ + j : Nat) : Int) := by unfold wrap64; omega
  have ew : wrap64 ((j : Int) + 1) = ((j + 1 : Nat) : Int) := by unfold wrap64; omega
  simp only [tremaref01_At.l1]
  rw [if_pos (by omega), ea, if_pos (by omega), if_pos (by omega), rd_at l _ hlt, ew, ← hxe, step_r2 r x h0 hr hx]
theorem fold_cons (r x : Int) (t : List Int) : fold r (x :: t) = fold (r * 64 + x % 64) t := rfl
theorem l1_pure (l : List Int) (hb : Bytes l) (hl : l.length ≤ 140737488355328) (at_ : Nat) (n : Nat) (hn : n ≤ 8) (han : at_ + n ≤ l.length) : ∀ (d j k : Nat) (r : Int), n - j = d → j ≤ n → d < k → 0 ≤ r → (r + 1) * (64 ^ d : Nat) ≤ 2097152 →
    tremaref01_At.l1 k l at_ (n : Int) r j = some (fold r ((l.drop (at_ + j)).take d), (n : Int), false) := by
  intro d
  induction d with
  | zero =>
    intro j k r hd hj hk _ _
    obtain ⟨k, rfl⟩ : ∃ m, k = m + 1 := ⟨k - 1, by omega⟩
    simp only [tremaref01_At.l1]
    rw [if_neg (by omega)]
    simp [fold]
  | succ d ih =>
    intro j k r hd hj hk h0 hr
    obtain ⟨k, rfl⟩ : ∃ m, k = m + 1 := ⟨k - 1, by clear hr; omega⟩
    have hlt : at_ + j < l.length := by clear hr; omega
    have hx := hb l[at_ + j] (List.getElem_mem hlt)
    have hp := step_p (x := l[at_ + j]) h0 (Nat.one_le_pow d 64 (by decide)) (by rw [Nat.pow_succ, Nat.mul_comm] at hr; exact hr)
    clear hr
    have h5 : 0 ≤ r * 64 + l[at_ + j] % 64 := by clear hp ih; omega
    rw [l1_step l hl at_ n j k r (by clear hp ih; omega) hlt _ rfl hx h0 hp.1, ih (j + 1) k _ (by clear hp ih; omega) (by clear hp ih; omega) (by clear hp ih; omega) h5 hp.2, List.drop_eq_getElem_cons hlt, List.take_succ_cons, fold_cons]
    rfl
def fin (l : List Int) (at_ : Nat) (c : Int) (bs : List (Int × Int)) (m : Nat) : Int × Int × Bool :=
  if m < bs.length then (65533, 1 + (m : Int), decide (at_ + 1 + m = l.length)) else (fold (st c) ((l.drop (at_ + 1)).take m), 1 + (m : Int), false)
theorem j1_pure (l : List Int) (hb : Bytes l) (hl : l.length ≤ 140737488355328) (at_ : Nat) (hat : at_ < l.length) (bs : List (Int × Int)) (hbs : bnd l[at_] = some bs) (m k : Nat) (hm : m ≤ bs.length) (hm2 : at_ + 1 + m ≤ l.length) (hk : m + 3 < k) :
    tremaref01_At.j1 k l at_ (flat bs) (1 + (m : Int)) = some (fin l at_ l[at_] bs m) := by
  obtain ⟨k, rfl⟩ : ∃ q, k = q + 1 := ⟨k - 1, by omega⟩
  have hc := hb l[at_] (List.getElem_mem hat)
  have hs := st_bound hc hbs
  have h3 := bnd_len hbs
  have ef : wrap64 (((flat bs).length : Int) / 2) = bs.length := by rw [flat_len]; unfold wrap64; omega
  simp only [tremaref01_At.j1]
  rw [ef]
  unfold fin
  by_cases h1 : m < bs.length
  · rw [if_pos (by omega), if_pos h1]
    have ea : wrap64 ((at_ : Int) + (1 + m)) = ((at_ + 1 + m : Nat) : Int) := by unfold wrap64; omega
    rw [ea]
    congr 3
    rw [Bool.eq_iff_iff]
    simp only [beq_iff_eq, decide_eq_true_eq]
    omega
  · obtain rfl : m = bs.length := by omega
    rw [if_neg (by omega), if_neg h1]
    have hw : wrap32 l[at_] = l[at_] := by clear hs; unfold wrap32; omega
    by_cases h0 : bs.length = 0
    · rw [if_pos (by omega), if_pos (by omega), if_pos (by omega), rd_at l at_ hat, hw, h0]
      have : st l[at_] = l[at_] := by
        unfold bnd at hbs
        unfold st
        split at hbs
        · rename_i h; rw [if_pos h]
        · split at hbs
          · cases hbs
          · split at hbs
            · cases hbs; simp at h0
            · split at hbs
              · cases hbs; simp at h0
              · cases hbs; simp at h0
      simp [fold, this]
    · rw [if_neg (by omega), if_pos (by omega), if_pos (by omega)]
      have e7 : wrap64 (7 - (1 + (bs.length : Int))) = 6 - bs.length := by clear hs; unfold wrap64; omega
      rw [e7, if_pos (by omega), rd_at l at_ hat, hw]
      have hsh : (shl .i32 1 (6 - (bs.length : Int))) ≠ 0 ∧ Int.tmod l[at_] (shl .i32 1 (6 - (bs.length : Int))) = st l[at_] := by
        unfold bnd at hbs
        unfold st
        split at hbs
        · cases hbs; simp at h0
        · rename_i g1
          rw [if_neg g1]
          split at hbs
          · cases hbs
          · split at hbs
            · rename_i g3; cases hbs
              rw [if_pos g3]
              exact ⟨by decide, by rw [show shl .i32 1 (6 - (([(128, 191)] : List (Int × Int)).length : Int)) = 32 by decide, Int.tmod_eq_emod_of_nonneg hc.1]⟩
            · rename_i g3
              rw [if_neg g3]
              split at hbs
              · rename_i g4; cases hbs
                rw [if_pos g4]
                simp only [List.length_cons, List.length_nil]
                exact ⟨by decide, by rw [show shl .i32 1 (6 - ((0 + 1 + 1 : Nat) : Int)) = 16 by decide, Int.tmod_eq_emod_of_nonneg hc.1]⟩
              · rename_i g4; cases hbs
                rw [if_neg g4]
                simp only [List.length_cons, List.length_nil]
                exact ⟨by decide, by rw [show shl .i32 1 (6 - ((0 + 1 + 1 + 1 : Nat) : Int)) = 8 by decide, Int.tmod_eq_emod_of_nonneg hc.1]⟩
      rw [if_neg hsh.1, hsh.2]
      have := l1_pure l hb hl at_ (1 + bs.length) (by clear hs; omega) (by clear hs; omega) bs.length 1 k (st l[at_]) (by clear hs; omega) (by clear hs; omega) (by clear hs; omega) hs.1 hs.2
      rw [show ((1 : Int) + (bs.length : Int)) = ((1 + bs.length : Nat) : Int) by push_cast; rfl]
      exact this
end Go.Proofs.YtdambnclbpipdaaGreatDoor.Ux
namespace Go.Proofs.YtdambnclbpipdaaGreatDoor.Ux
set_option linter.unusedVariables false
set_option linter.unusedSimpArgs false
open Go.RowKit Go.Proofs.YtdambnclbpipdaaGreatDoorW.PrintWords Go.Proofs.YtdambnclbpipdaaGreatDoor.Hp Go.Proofs.YtdambnclbpipdaaGreatDoor.X
def dec : Nat → List Int → Int → List S202 × List Int × Int
  | 0, b, p => ([], b, p)
  | _ + 1, [], p => ([], [], p)
  | k + 1, c :: t, p =>
    if (one1 c t).2.2 = true then ([], c :: t, p)
    else ((⟨(one1 c t).1, p, (one1 c t).2.1⟩ : S202) :: (dec k ((c :: t).drop (one1 c t).2.1.toNat) (p + (one1 c t).2.1)).1, (dec k ((c :: t).drop (one1 c t).2.1.toNat) (p + (one1 c t).2.1)).2)
def dc (b : List Int) (p : Int) : List S202 × List Int × Int := dec b.length b p
def rest1 (b : List Int) (p : Int) : List S202 := if b = [] then [] else [⟨65533, p, b.length⟩]
def full (b : List Int) : List S202 := (dc b 0).1 ++ rest1 (dc b 0).2.1 (dc b 0).2.2
theorem drop_lt (c : Int) (t : List Int) : ((c :: t).drop (one1 c t).2.1.toNat).length ≤ t.length := by
  have := one1_width c t
  rw [List.length_drop, List.length_cons]
  omega
theorem dec_more : ∀ (k : Nat) (b : List Int) (p : Int), b.length ≤ k → dec k b p = dc b p
  | 0, [], p, _ => rfl
  | 0, c :: t, p, h => by simp at h
  | k + 1, [], p, _ => rfl
  | k + 1, c :: t, p, h => by
    have hd := drop_lt c t
    have h' : t.length ≤ k := by simpa using h
    unfold dc
    rw [List.length_cons]
    simp only [dec]
    rw [dec_more k _ _ (by omega), dec_more t.length _ _ hd]
theorem dc_nil (p : Int) : dc [] p = ([], [], p) := rfl
theorem dc_cons (c : Int) (t : List Int) (p : Int) : dc (c :: t) p = if (one1 c t).2.2 = true then ([], c :: t, p) else ((⟨(one1 c t).1, p, (one1 c t).2.1⟩ : S202) :: (dc ((c :: t).drop (one1 c t).2.1.toNat) (p + (one1 c t).2.1)).1, (dc ((c :: t).drop (one1 c t).2.1.toNat) (p + (one1 c t).2.1)).2) := by
  rw [dc, List.length_cons]
  simp only [dec]
  rw [dec_more t.length _ _ (drop_lt c t)]
theorem dc_ind {P : List Int → Int → Prop} (h0 : ∀ p, P [] p) (h1 : ∀ c t p, (one1 c t).2.2 = true → P (c :: t) p) (h2 : ∀ c t p, (one1 c t).2.2 = false → P ((c :: t).drop (one1 c t).2.1.toNat) (p + (one1 c t).2.1) → P (c :: t) p) : ∀ b p, P b p := by
  intro b
  induction hn : b.length using Nat.strongRecOn generalizing b with
  | _ n ih =>
    intro p
    cases b with
    | nil => exact h0 p
    | cons c t =>
      cases hm : (one1 c t).2.2 with
      | true => exact h1 c t p hm
      | false =>
        have hd := drop_lt c t
        exact h2 c t p hm (ih _ (by rw [← hn, List.length_cons]; omega) _ rfl _)
theorem dc_len (b : List Int) (p : Int) : (dc b p).2.2 + (dc b p).2.1.length = p + b.length ∧ (dc b p).1.length + (dc b p).2.1.length ≤ b.length ∧ (dc b p).2.1.length ≤ b.length := by
  refine dc_ind (P := fun b p => (dc b p).2.2 + (dc b p).2.1.length = p + b.length ∧ (dc b p).1.length + (dc b p).2.1.length ≤ b.length ∧ (dc b p).2.1.length ≤ b.length) ?_ ?_ ?_ b p
  · intro p; simp [dc_nil]
  · intro c t p h; rw [dc_cons, if_pos h]; simp
  · intro c t p h ih
    have hw := one1_width c t
    rw [dc_cons, if_neg (by simp [h])]
    simp only [List.length_drop, List.length_cons] at ih ⊢
    omega
theorem cont_more : ∀ (bs : List (Int × Int)) (t : List Int) (r i : Int), (cont bs t r i).2.2 = true → (cont bs t r i).1 = 65533 ∧ (cont bs t r i).2.1 = i + t.length ∧ t.length < bs.length
  | [], t, r, i, h => by simp [cont] at h
  | b :: bs, [], r, i, h => by simp [cont]
  | (lo, hi) :: bs, x :: t, r, i, h => by
    simp only [cont] at h ⊢
    split
    · rename_i hc; rw [if_pos hc] at h; simp at h
    · rename_i hc
      rw [if_neg hc] at h
      have := cont_more bs t _ _ h
      simp only [List.length_cons]
      refine ⟨this.1, by rw [this.2.1]; push_cast; omega, by omega⟩
theorem one1_more (c : Int) (t : List Int) (h : (one1 c t).2.2 = true) : (one1 c t).1 = 65533 ∧ (one1 c t).2.1 = 1 + t.length ∧ t.length < 3 := by
  unfold one1 at h ⊢
  cases hb : bnd c with
  | none => rw [hb] at h; simp at h
  | some bs =>
    rw [hb] at h
    have h1 := cont_more bs t _ _ h
    have h2 := bnd_len hb
    exact ⟨h1.1, h1.2.1, by omega⟩
theorem dc_rest (b : List Int) (p : Int) : (dc b p).2.1.length ≤ 3 ∧ (dc (dc b p).2.1 (dc b p).2.2) = ([], (dc b p).2.1, (dc b p).2.2) := by
  refine dc_ind (P := fun b p => (dc b p).2.1.length ≤ 3 ∧ (dc (dc b p).2.1 (dc b p).2.2) = ([], (dc b p).2.1, (dc b p).2.2)) ?_ ?_ ?_ b p
  · intro p; simp [dc_nil]
  · intro c t p h
    have h3 := one1_more c t h
    rw [dc_cons, if_pos h]
    simp only [List.length_cons]
    exact ⟨by omega, by rw [dc_cons, if_pos h]⟩
  · intro c t p h ih
    rw [dc_cons, if_neg (by simp [h])]
    exact ih
theorem bytes_drop {l : List Int} (h : Bytes l) (n : Nat) : Bytes (l.drop n) := fun x hx => h x (List.mem_of_mem_drop hx)
end Go.Proofs.YtdambnclbpipdaaGreatDoor.Ux
namespace Go.Proofs.YtdambnclbpipdaaGreatDoor.Ud
set_option linter.unusedVariables false
set_option linter.unusedSimpArgs false
open Go.RowKit Go.Proofs.YtdambnclbpipdaaGreatDoorW.PrintWords Go.Proofs.YtdambnclbpipdaaGreatDoor.Hp Go.Proofs.YtdambnclbpipdaaGreatDoor.X Go.Proofs.YtdambnclbpipdaaGreatDoor.Ux
abbrev TD : Nat := 200
abbrev TP : Nat := 202
theorem info_8 : (Tryz.prog.info? 5).map (fun i => (i.zero, i.size, i.bytes)) = some (some (.int .u8 0), 1, 1) := by kernel_rfl
theorem info_P : (Tryz.prog.info? 202).map (fun i => (i.zero, i.size, i.bytes)) = some (some (.agg #[.int .i32 0, .int .i64 0, .int .i64 0]), 3, 24) := by kernel_rfl
def IsDec (g base : Nat) (kept : List Int) (at_ : Int) (closed : Bool) (ok : Nat → Prop) (w : World) : Prop :=
  ∃ kv, w.heap[g]? = some (.cells #[kv, .int .i64 at_, .bool closed] TD (0, 0)) ∧ base ≤ g ∧ ok g ∧ w.ownsRow base 5 1 kv kept.length (nums .u8 kept) ∧ ∀ b, kv.ownBlock = some b → ok b ∧ b ≠ g
section
variable {g base : Nat} {kept : List Int} {at_ : Int} {closed : Bool} {ok ok' : Nat → Prop} {w w1 : World}
theorem IsDec.mono (h : IsDec g base kept at_ closed ok w) (hok : ∀ k, ok k → ok' k) : IsDec g base kept at_ closed ok' w := by
  obtain ⟨kv, h1, h2, h3, h4, h5⟩ := h
  exact ⟨kv, h1, h2, hok _ h3, h4, fun b hb => ⟨hok _ (h5 b hb).1, (h5 b hb).2⟩⟩
theorem IsDec.bound (h : IsDec g base kept at_ closed ok w) : IsDec g base kept at_ closed (fun k => ok k ∧ k < w.heap.size) w := by
  obtain ⟨kv, h1, h2, h3, h4, h5⟩ := h
  exact ⟨kv, h1, h2, ⟨h3, blk_lt h1⟩, h4, fun b hb => ⟨⟨(h5 b hb).1, own_lt h4 b hb⟩, (h5 b hb).2⟩⟩
theorem IsDec.step (h : IsDec g base kept at_ closed ok w) (hm : ∀ k, ok k → k < w.heap.size → w1.heap[k]? = w.heap[k]?) : IsDec g base kept at_ closed ok w1 := by
  obtain ⟨kv, h1, h2, h3, h4, h5⟩ := h
  exact ⟨kv, (hm g h3 (blk_lt h1)).trans h1, h2, h3, own_move h4 (fun b hb => hm b (h5 b hb).1 (own_lt h4 b hb)), h5⟩
theorem IsDec.below (h : IsDec g base kept at_ closed ok w) (hb : Below w.heap.size w w1) : IsDec g base kept at_ closed ok w1 := h.step (fun k _ hlt => hb.block k hlt)
theorem IsDec.chg {S : Nat → Prop} (h : IsDec g base kept at_ closed ok w) (hc : Chg S w w1) (hd : ∀ k, k < w.heap.size → ok k → ¬ S k) : IsDec g base kept at_ closed ok w1 :=
  (h.bound.step (fun k hk hlt => hc.keep k hlt (hd k hk.2 hk.1))).mono (fun _ hk => hk.1)
theorem IsDec.lower {base' : Nat} (h : IsDec g base kept at_ closed ok w) (hb : base' ≤ base) : IsDec g base' kept at_ closed ok w := by
  obtain ⟨kv, h1, h2, h3, h4, h5⟩ := h
  exact ⟨kv, h1, Nat.le_trans hb h2, h3, own_weaken h4 hb, h5⟩
theorem IsDec.lt (h : IsDec g base kept at_ closed ok w) : g < w.heap.size ∧ base ≤ g ∧ ok g := by
  obtain ⟨kv, h1, h2, h3, _⟩ := h
  exact ⟨blk_lt h1, h2, h3⟩
end
def NewPost (w : World) (e : Ending) (w' : World) : Prop := ∃ g, e = .returned (.pointer (some ⟨g, 0, none⟩)) ∧ w.heap.size ≤ g ∧ IsDec g w.heap.size [] 0 false (fun b => b = g) w' ∧ Below w.heap.size w w'
set_option maxHeartbeats 1000000 in
theorem New (w : World) : Calls Tryz.prog 105 #[] w (NewPost w) := by
  have hfin : NewPost w (.returned (.pointer (some ⟨w.heap.size, 0, none⟩))) (w.alloc (.cells #[.slice none 0 0, .int .i64 0, .bool false] TD)) :=
    ⟨w.heap.size, rfl, Nat.le_refl _, ⟨.slice none 0 0, heap_alloc_new w _, Nat.le_refl _, rfl, own_nil _ _ _ _, by simp [Value.ownBlock]⟩, below_alloc (Below.refl _ _) _⟩
  go_enter Tryz.func105, Tryz.ntmps105
  go_wp2
  go_ret
  exact hfin
def ClosePost (w : World) (g base : Nat) (kept : List Int) (at_ : Int) (ok : Nat → Prop) (e : Ending) (w' : World) : Prop :=
  ∃ lv, e = .returned lv ∧ Kd.R k202 TP w' w.heap.size (fun _ => True) lv (rest1 kept at_) ∧ IsDec g base [] at_ true (fun b => b = g) w' ∧ Chg (fun b => b = g) w w'
set_option maxHeartbeats 2000000 in
theorem Close (w : World) (g base : Nat) (kept : List Int) (at_ : Int) (ok : Nat → Prop) (h : IsDec g base kept at_ false ok w) :
    Calls Tryz.prog 109 #[.pointer (some ⟨g, 0, none⟩)] w (ClosePost w g base kept at_ ok) := by
  obtain ⟨kv, h1, h2, h3, h4, h5⟩ := h
  have c0 : w.cell? ⟨g, 0, none⟩ = some kv := by simp [World.cell?, h1]
  have c1 : w.cell? ⟨g, 1, none⟩ = some (.int .i64 at_) := by simp [World.cell?, h1]
  have c2 : w.cell? ⟨g, 2, none⟩ = some (.bool false) := by simp [World.cell?, h1]
  have f0 : w.frozen? ⟨g, 0, none⟩ = false := by simp [World.frozen?, h1]
  have f2 : w.frozen? ⟨g, 2, none⟩ = false := by simp [World.frozen?, h1]
  obtain ⟨A, c, rfl, hr⟩ := own_reads h4
  have hm := hr.2.1
  have hl := blk_lt h1
  obtain ⟨W, hW⟩ : ∃ W, W = (w.setCell ⟨g, 2, none⟩ (.bool true)).setCell ⟨g, 0, none⟩ (.slice none 0 0) := ⟨_, rfl⟩
  have hWg : W.heap[g]? = some (.cells #[.slice none 0 0, .int .i64 at_, .bool true] TD (0, 0)) := by
    have := blk_set (blk_set h1 2 (.bool true)) 0 (.slice none 0 0)
    rw [hW]; simpa using this
  have hch : Chg (fun b => b = g) w W := by rw [hW]; exact ((Chg.refl (fun b => b = g) w).setCell (p := ⟨g, 2, none⟩) (.inl rfl) _).setCell (p := ⟨g, 0, none⟩) (.inl rfl) _
  have hdec : IsDec g base [] at_ true (fun b => b = g) W := ⟨_, hWg, h2, rfl, own_nil _ _ _ _, by simp [Value.ownBlock]⟩
  have hsz : W.heap.size = w.heap.size := by rw [hW]; simp [World.setCell]
  by_cases h0 : kept.length = 0
  · have hk : kept = [] := List.eq_nil_of_length_eq_zero h0
    have hfin : ClosePost w g base kept at_ ok (.returned (.slice none 0 0)) W := ⟨_, rfl, by rw [hk]; exact Kd.R_nil _ _ _ _ _, hdec, hch⟩
    rw [hW] at hfin
    subst hk
    clear h1 h2 h3 h4 h5 hr hW hWg hch hdec hsz h0
    go_enter Tryz.func109, Tryz.ntmps109
    go_wp2
    go_ret
    exact hfin
  · have hb : ((kept.length : Int) == 0) = false := by simpa using h0
    have hfin : ClosePost w g base kept at_ ok (.returned (.slice (some ⟨w.heap.size, 0, none⟩) 1 1)) (W.alloc (.cells #[.int .i32 65533, .int .i64 at_, .int .i64 kept.length] TP)) := by
      refine ⟨_, rfl, ?_, hdec.below (below_alloc (Below.refl _ _) _), hch.alloc _⟩
      have e : rest1 kept at_ = [(⟨65533, at_, kept.length⟩ : S202)] := by unfold rest1; rw [if_neg (fun hk => h0 (by rw [hk]; rfl))]
      rw [e]
      refine ⟨fun _ _ => trivial, [.int .i32 65533, .int .i64 at_, .int .i64 kept.length], ⟨rfl, .inr ⟨w.heap.size, 1, #[.int .i32 65533, .int .i64 at_, .int .i64 kept.length], rfl, Nat.le_refl _, ?_, Nat.le_refl _, by simp [maxLen], rfl, rfl⟩⟩, ?_⟩
      · rw [← hsz]; exact heap_alloc_new W _
      · refine ⟨rfl, fun j p hj => ?_⟩
        match j, hj with
        | 0, hj => cases hj; exact k202_mkM _ _ _ _
        | j + 1, hj => simp at hj
    rw [hW] at hfin
    clear h1 h2 h3 h4 h5 hr hW hWg hch hdec hsz h0
    go_enter Tryz.func109, Tryz.ntmps109
    go_wp2
    go_ret
    exact hfin
end Go.Proofs.YtdambnclbpipdaaGreatDoor.Ud
namespace Go.Proofs.YtdambnclbpipdaaGreatDoor.Ud
set_option linter.unusedVariables false
set_option linter.unusedSimpArgs false
open Go.RowKit Go.Proofs.YtdambnclbpipdaaGreatDoorW.PrintWords Go.Proofs.YtdambnclbpipdaaGreatDoor.Hp Go.Proofs.YtdambnclbpipdaaGreatDoor.X Go.Proofs.YtdambnclbpipdaaGreatDoor.Ux
def sliceLen : Value → Nat
  | .slice _ n _ => n
  | _ => 0
def WritePost (w : World) (g base : Nat) (all : List Int) (at_ : Int) (ok : Nat → Prop) (e : Ending) (w' : World) : Prop :=
  ∃ lv M, e = .returned lv ∧ w.heap.size ≤ M ∧ Kd.R k202 TP w' w.heap.size (fun b => b < M) lv (dc all at_).1 ∧ IsDec g base (dc all at_).2.1 (dc all at_).2.2 false (fun b => b = g ∨ M ≤ b) w' ∧ Chg ok w w'
def Inv (W1 : World) (g : Nat) (kv : Value) (all : List Int) (at0 : Int) (av lv : Value) (rest : List Int) (wr : World) : Prop :=
  ∃ (pts : List S202) (at_ : Int) (A : Option Addr) (c : Nat), av = .slice A rest.length c ∧ rest.length ≤ c ∧ Kd.C (Kd.int .u8) wr A rest.length rest ∧ (∀ ad, A = some ad → ad.block < W1.heap.size ∧ ad.block ≠ g) ∧
    Kd.R k202 TP wr W1.heap.size (fun _ => True) lv pts ∧ wr.heap[g]? = some (.cells #[kv, .int .i64 at_, .bool false] TD (0, 0)) ∧
    dc all at0 = (pts ++ (dc rest at_).1, (dc rest at_).2) ∧ Chg (fun b => b = g) W1 wr ∧ at_ + rest.length = at0 + all.length ∧ pts.length + rest.length ≤ all.length
theorem Inv.chg {W1 : World} {g : Nat} {kv : Value} {all : List Int} {at0 : Int} {av lv : Value} {rest : List Int} {wr : World} (h : Inv W1 g kv all at0 av lv rest wr) : Chg (fun b => b = g) W1 wr := by
  obtain ⟨_, _, _, _, _, _, _, _, _, _, _, h, _⟩ := h; exact h
theorem Inv.fin {w W1 wr wq : World} {g base : Nat} {ok : Nat → Prop} {kv av lv : Value} {all rest : List Int} {at0 : Int} (h : Inv W1 g kv all at0 av lv rest wr) (hstop : ∀ p, dc rest p = ([], rest, p)) (hq : Drawn0 wr wq)
    (hW : Chg ok w W1) (hbase : base ≤ g) (hok : ok g) (hbw : base ≤ w.heap.size) (hgw : g < w.heap.size) : ∀ (v1 : Value) (w1 : World), w1.ownsRow wq.heap.size 5 1 v1 rest.length (nums .u8 rest) → Below wq.heap.size wq w1 → WritePost w g base all at0 ok (.returned lv) (w1.setCell ⟨g, 0, none⟩ v1) := by
  intro v1 w1 hown hb
  obtain ⟨pts, at_, A, c, rfl, hc, hC, hA, hR, hg, hd, hch, _, _⟩ := h
  have hs1 := hq.below.size
  have hs2 := hch.size
  have hs3 := hW.size
  have hs4 := hb.size
  have e : dc all at0 = (pts, rest, at_) := by rw [hd, hstop]; simp
  have hbq := hq.below
  have hRq : Kd.R k202 TP w1 W1.heap.size (fun b => b < wq.heap.size) lv pts := by
    have h1 := Kd.R_below hR hbq
    exact Kd.R_below (Kd.R_mono (Kd.R_bound h1) (fun b hb => hb.2.2.1)) hb
  have hgq : wq.heap[g]? = some (.cells #[kv, .int .i64 at_, .bool false] TD (0, 0)) := (hbq.block g (by omega)).trans hg
  have hg1 : w1.heap[g]? = some (.cells #[kv, .int .i64 at_, .bool false] TD (0, 0)) := (hb.block g (by omega)).trans hgq
  have hRg : Kd.R k202 TP w1 W1.heap.size (fun b => b < wq.heap.size ∧ b ≠ g) lv pts := Kd.R_mono (Kd.R_bound hRq) (fun b hb => ⟨hb.1, by have := hb.2.1; omega⟩)
  refine ⟨lv, wq.heap.size, rfl, by omega, ?_, ?_, ?_⟩
  · rw [e]
    exact Kd.R_lower (Kd.R_mono (Kd.R_far (p := ⟨g, 0, none⟩) hRg (fun b hb => hb.2) v1) (fun b hb => hb.1)) hs3
  · rw [e]
    refine ⟨v1, ?_, hbase, .inl rfl, ?_, ?_⟩
    · have := blk_set hg1 0 v1
      simpa using this
    · exact own_setCell (own_weaken hown (by omega)) (fun he => by have := own_base hown g he.symm; omega) v1
    · intro b hb2
      have := own_base hown b hb2
      exact ⟨.inr this, by omega⟩
  · exact ((((hW.trans hch (fun i hi hs => by subst hs; exact hok)).then_below hbq).then_below hb)).setCell (p := ⟨g, 0, none⟩) (.inl hok) v1
theorem chg_below {S : Nat → Prop} {w w1 w2 : World} (h : Chg S w w1) (k : Below w.heap.size w1 w2) : Chg S w w2 :=
  ⟨k.os.trans h.os, k.tape.trans h.tape, k.output.trans h.output, Nat.le_trans h.size k.size, fun i hi hn => (k.block i hi).trans (h.keep i hi hn)⟩
theorem Inv.next {W1 wr wq w2 : World} {g : Nat} {kv lv2 : Value} {all : List Int} {at0 : Int} {pts : List S202} {at_ : Int} {A : Option Addr} {c : Nat} {rest : List Int} {x : Int} {t : List Int} {r : Int} {m : Nat} (hx : rest = x :: t) (ho : one1 x t = (r, (m : Int), false))
    (hc : rest.length ≤ c) (hC : Kd.C (Kd.int .u8) wr A rest.length rest) (hA : ∀ ad, A = some ad → ad.block < W1.heap.size ∧ ad.block ≠ g) (hg : wr.heap[g]? = some (.cells #[kv, .int .i64 at_, .bool false] TD (0, 0)))
    (hd : dc all at0 = (pts ++ (dc rest at_).1, (dc rest at_).2)) (hch : Chg (fun b => b = g) W1 wr) (hs : at_ + rest.length = at0 + all.length) (hp : pts.length + rest.length ≤ all.length) (hgl : g < W1.heap.size)
    (hq : Drawn0 wr wq) (hR : Kd.R k202 TP w2 W1.heap.size (fun _ => True) lv2 (pts ++ [(⟨r, at_, m⟩ : S202)])) (hb : Below W1.heap.size wq w2) (A2 : Option Addr) (hA2 : A2 = if c = m then A else A.map (·.add (m * 1))) :
    Inv W1 g kv all at0 (.slice A2 (rest.length - m) (c - m)) lv2 (rest.drop m) (w2.setCell ⟨g, 1, none⟩ (.int .i64 (at_ + m))) := by
  have hw := one1_width x t
  rw [ho] at hw
  simp only at hw
  have hl : rest.length = t.length + 1 := by rw [hx]; rfl
  have hm : m ≤ rest.length := by omega
  have hs1 := hq.below.size
  have hs2 := hch.size
  have hgq : wq.heap[g]? = some (.cells #[kv, .int .i64 at_, .bool false] TD (0, 0)) := (hq.below.block g (by omega)).trans hg
  have hg2 := (hb.block g hgl).trans hgq
  have hread := ((rdint hC).below hq.below).drop_ m hm hc
  refine ⟨pts ++ [(⟨r, at_, m⟩ : S202)], at_ + m, A2, c - m, by rw [List.length_drop], by rw [List.length_drop]; omega, ?_, ?_, ?_, ?_, ?_, ?_, ?_, ?_⟩
  · rw [List.length_drop]
    have h1 : ReadsInt wq .u8 A2 (rest.length - m) (rest.drop m) := by
      rw [hA2]
      simpa using hread
    refine rdC ⟨h1.1, h1.2.1, fun hp => ?_⟩
    obtain ⟨ad, he, hcell⟩ := h1.2.2 hp
    refine ⟨ad, he, fun j hj => ?_⟩
    have hbk : ad.block < W1.heap.size ∧ ad.block ≠ g := by
      rw [hA2] at he
      split at he
      · exact hA ad he
      · cases A with
        | none => simp at he
        | some a0 =>
          simp only [Option.map_some, Option.some.injEq] at he
          have := hA a0 rfl
          rw [← he]
          unfold Addr.add
          split <;> exact this
    have hab : (ad.add j).block = ad.block := by unfold Addr.add; split <;> rfl
    have h2 : (w2.setCell ⟨g, 1, none⟩ (.int .i64 (at_ + m))).heap[(ad.add j).block]? = wq.heap[(ad.add j).block]? := by
      rw [hab]
      exact (Below.heap_setCell _ _ _ _ hbk.2).trans (hb.block _ hbk.1)
    rw [← hcell j hj]
    exact World.cell?_of_block h2
  · intro ad he
    rw [hA2] at he
    split at he
    · exact hA ad he
    · cases A with
      | none => simp at he
      | some a0 =>
        simp only [Option.map_some, Option.some.injEq] at he
        have := hA a0 rfl
        rw [← he]
        unfold Addr.add
        split <;> exact this
  · exact Kd.R_mono (Kd.R_far (p := ⟨g, 1, none⟩) (Kd.R_mono (ok' := fun b => b ≠ g) (Kd.R_bound hR) (fun b hb => by have := hb.2.1; omega)) (fun b hb => hb) _) (fun _ _ => trivial)
  · have := blk_set hg2 1 (.int .i64 (at_ + m))
    simpa using this
  · rw [hd, hx, dc_cons, ho]
    simp
  · exact (chg_below (hch.then_drawn hq) hb).setCell (p := ⟨g, 1, none⟩) (.inl rfl) _
  · rw [List.length_drop]; omega
  · rw [List.length_drop, List.length_append, List.length_singleton]; omega
set_option maxRecDepth 100000 in
set_option maxHeartbeats 4000000 in
theorem Write (w : World) (g base : Nat) (kept : List Int) (at0 : Int) (ok : Nat → Prop) (A : Option Addr) (n c : Nat) (bs : List Int) (h : IsDec g base kept at0 false ok w) (hb : ReadsInt w .u8 A n bs) 
    (hB : Bytes (kept ++ bs)) (hlen : kept.length + n ≤ 1000000000) (hat : 0 ≤ at0 ∧ at0 ≤ 4000000000000000) :
    Calls Tryz.prog 108 #[.pointer (some ⟨g, 0, none⟩), .slice A n c] w (WritePost w g base (kept ++ bs) at0 ok) := by
  obtain ⟨kv, h1, h2, h3, h4, h5⟩ := h
  have c0 : w.cell? ⟨g, 0, none⟩ = some kv := by simp [World.cell?, h1]
  have c2 : w.cell? ⟨g, 2, none⟩ = some (.bool false) := by simp [World.cell?, h1]
  have hl := blk_lt h1
  have hbn := hb.1
  have H1 := Aside0.mk h1
  have H4 := Aside0.mk h4
  have H5 := Aside0.mk h5
  have HBY := Aside0.mk hB
  have HRB := Aside0.mk hb
  have HBN := Aside0.mk hbn
  obtain ⟨hat0, hat1⟩ := hat
  clear h1 h4 h5 hB hb hbn
  go_enter Tryz.func108, Tryz.ntmps108
  go_wp2_with (at_builtin; go_must (refine print_append_row (w0 := w) base rfl (.tmp 21) (.tmp 22) 28 5 .u8 1 rfl Tryz.underlying28 info_8 (by decide) kv kept bs A n c rfl rfl H4.out HRB.out (Below.refl _ _) (by omega) (by omega) ?hh))
  case hh =>
    intro v1 W1 hown0 hb1 hg1 hat1
    obtain ⟨L, hL⟩ : ∃ L, L = (kept ++ bs).length := ⟨_, rfl⟩
    have hown : W1.ownsRow base 5 1 v1 L (nums .u8 (kept ++ bs)) := by rw [hL, List.length_append]; exact hown0
    clear hown0
    obtain ⟨A1, c1, rfl, hr1⟩ := own_reads hown
    have hn1 : (A1 = none → False) ∨ True := .inr trivial
    have hW : Chg ok w W1 := (Chg.refl ok w).grown hg1 (fun b hb => .inl (H5.out b hb).1)
    have hgW : W1.heap[g]? = some (.cells #[kv, .int .i64 at0, .bool false] TD (0, 0)) := (hg1.block g hl (fun he => (H5.out g he.symm).2 rfl)).trans H1.out
    have hcap : L ≤ c1 := by
      rcases hown.2 with ⟨he, hn⟩ | ⟨go, cap, cur, he, _, _, h7, _⟩
      · injection he; omega
      · injection he; omega
    have hA1 : ∀ ad, A1 = some ad → ad.block < W1.heap.size ∧ ad.block ≠ g := by
      intro ad he
      have hob : (Value.slice A1 L c1).ownBlock = some ad.block := by rw [he]; rfl
      refine ⟨own_lt hown _ hob, fun hbg => ?_⟩
      rcases hat1 with h7 | ⟨b, h7, h8⟩
      · rw [hob] at h7; exact (H5.out _ h7.symm).2 hbg
      · rw [hob] at h7; injection h7 with h7; omega
    have hsl : base ≤ w.heap.size := by omega
    have hall : (kept ++ bs).length ≤ 1000000000 := by rw [List.length_append, HBN.out]; exact hlen
    have hinv : Inv W1 g kv (kept ++ bs) at0 (.slice A1 (kept ++ bs).length c1) (.slice none 0 0) (kept ++ bs) W1 :=
      ⟨[], at0, A1, c1, rfl, by rw [← hL]; exact hcap, by rw [← hL]; exact rdC hr1, hA1, Kd.R_nil _ _ _ _ _, hgW, by simp, Chg.refl _ _, rfl, by simp⟩
    have hgl : g < W1.heap.size := blk_lt hgW
    have HINV := Aside0.mk hinv
    have HWW := Aside0.mk hW
    have HBY2 := Aside0.mk (show Bytes (kept ++ bs) from HBY.out)
    obtain ⟨all, hall2⟩ : ∃ all, all = kept ++ bs := ⟨_, rfl⟩
    rw [← hall2] at HINV HBY2 hall
    have HALL := Aside0.mk hall2
    have hrb : ∀ rest : List Int, (∃ k, rest = all.drop k) → Bytes rest := fun rest ⟨k, he⟩ => by rw [he]; exact bytes_drop HBY2.out k
    have hll : L = all.length := by rw [hall2, hL]
    have HLL := Aside0.mk hll
    clear hinv hW hcap hA1 hr1 hown hb1 hg1 hat1 hgW hall2 hn1 hll hL
    have HBR := Aside0.mk hrb
    clear hrb
    go_wp2_with fail
    go_loopw [5, 6] (fun av lv wr => ∃ (rest : List Int), Aside0 (Inv W1 g kv all at0 av lv rest wr) ∧ Aside0 (∃ k, rest = all.drop k)) (fun av _ _ => sliceLen av)
    case atStart => exact ⟨all, by rw [HLL.out]; exact HINV, ⟨0, by simp⟩⟩
    case round =>
      obtain ⟨rest, HI, HK⟩ := hrel
      have HBRE := Aside0.mk (HBR.out rest HK.out)
      obtain ⟨pts, at_, A, c, rfl, hc, hC, hA, hR, hg, hd, hch, hs, hp⟩ := HI.out
      have hfinI := HI.out
      have hm := Kd.C_max hC
      have hs1 := hch.size
      cases hrest : rest with
      | nil =>
        rw [hrest] at hfinI hC
        obtain ⟨wq, hwq⟩ : ∃ wq, wq = wr := ⟨_, rfl⟩
        have HC := Aside0.mk (show Kd.C (Kd.int .u8) wr A ([] : List Int).length [] from hC)
        have HG := Aside0.mk (And.intro hg (show g < wr.heap.size by omega))
        have HEND := Aside0.mk (Inv.fin hfinI (fun p => rfl) (Drawn0.refl wr) HWW.out h2 h3 (by omega) hl)
        clear hfinI hC hg hd hch hs hp hA hR hrest hc HI hwq
        go_wp2_with (at_builtin; go_must (refine print_append_row (w0 := wr) (wr).heap.size rfl (.const (.slice none 0 0)) (.tmp 56) 28 5 .u8 1 rfl Tryz.underlying28 info_8 (by decide) (.slice none 0 0) [] ([] : List Int) A (([] : List Int)).length c rfl rfl (own_nil _ _ _ _) (rdint HC.out) (Below.refl _ _) (Nat.le_refl _) (by first | (simp; done) | (simp; omega)) ?hh))
        case hh =>
          intro v1 w1 hown hb1 hg1 hat1
          have hc1 : w1.cell? ⟨g, 0, none⟩ = some kv := by
            have : w1.heap[g]? = (wr).heap[g]? := hb1.block g HG.out.2
            simp [World.cell?, this, HG.out.1]
          have hf1 : w1.frozen? ⟨g, 0, none⟩ = false := by
            have : w1.heap[g]? = (wr).heap[g]? := hb1.block g HG.out.2
            simp [World.frozen?, this, HG.out.1]
          have hfin : WritePost w g base all at0 ok (.returned u6) (w1.setCell ⟨g, 0, none⟩ v1) := HEND.out v1 w1 (by simpa using hown) hb1
          rw [HALL.out] at hfin
          have HFIN := Aside0.mk hfin
          obtain ⟨A1, c1, rfl⟩ := own_slice hown
          clear hfin hown hb1 hg1 hat1
          go_wp2
          go_ret
          exact HFIN.out
      | cons x t =>
        have hlr : rest.length ≤ all.length := by omega
        have hpos : 0 < rest.length := by rw [hrest]; simp
        have hdp : decide (0 < rest.length) = true := by simpa using hpos
        have hbr := HBRE.out
        have hone : utf_one.f 8 rest = some (one1 x t) := by rw [hrest] at hbr ⊢; exact one_pure x t hbr (by rw [← hrest]; omega)
        obtain ⟨r, nn, more, he⟩ : ∃ r nn more, one1 x t = (r, nn, more) := ⟨_, _, _, rfl⟩
        rw [he] at hone
        have hcall := utf_one.calls 8 A c rest r nn more wr hC hc hone
        have HCALL := Aside0.mk hcall
        have hw := one1_width x t
        rw [he] at hw
        obtain ⟨hw1, hw2, hw3⟩ := hw
        simp only at hw1 hw2 hw3
        have hge : g < wr.heap.size := by omega
        rw [← hrest]
        cases more with
        | true =>
          have hstop : ∀ p, dc rest p = ([], rest, p) := fun p => by rw [hrest, dc_cons, he]; rfl
          have HST := Aside0.mk hstop
          have HFI := Aside0.mk hfinI
          have HCC := Aside0.mk hC
          have HGG := Aside0.mk hg
          clear hfinI hC hg hd hch hs hp hA hR hrest HI hone hcall hbr hstop he
          go_wp2_with (first | (go_at_call 148; have t0 := HCALL.out; refine t0.mono ?_; rintro e wq ⟨rfl, hq⟩; have HQ := Aside0.mk hq; have HC := Aside0.mk (Kd.C_below HCC.out HQ.out.below); have HG := Aside0.mk (And.intro (HQ.out.below.block g hge |>.trans HGG.out) (Nat.lt_of_lt_of_le hge HQ.out.below.size)); have HEND := Aside0.mk (Inv.fin HFI.out HST.out HQ.out HWW.out h2 h3 (by omega) hl); clear hq t0 HCALL) | (at_builtin; go_must (refine print_append_row (w0 := wq) wq.heap.size rfl (.const (.slice none 0 0)) (.tmp 56) 28 5 .u8 1 rfl Tryz.underlying28 info_8 (by decide) (.slice none 0 0) [] rest A rest.length c rfl rfl (own_nil _ _ _ _) (rdint HC.out) (Below.refl _ _) (Nat.le_refl _) (by simp; omega) ?hh)))
          case hh =>
            intro v1 w1 hown hb1 hg1 hat1
            have hc1 : w1.cell? ⟨g, 0, none⟩ = some kv := by
              have : w1.heap[g]? = (wq).heap[g]? := hb1.block g HG.out.2
              simp [World.cell?, this, HG.out.1]
            have hf1 : w1.frozen? ⟨g, 0, none⟩ = false := by
              have : w1.heap[g]? = (wq).heap[g]? := hb1.block g HG.out.2
              simp [World.frozen?, this, HG.out.1]
            have hfin : WritePost w g base all at0 ok (.returned u6) (w1.setCell ⟨g, 0, none⟩ v1) := HEND.out v1 w1 (by simpa using hown) hb1
            rw [HALL.out] at hfin
            have HFIN := Aside0.mk hfin
            obtain ⟨A1, c1, rfl⟩ := own_slice hown
            clear hfin hown hb1 hg1 hat1
            go_wp2
            go_ret
            exact HFIN.out
        | false =>
          obtain ⟨m, rfl⟩ : ∃ m : Nat, nn = m := ⟨nn.toNat, by omega⟩
          obtain ⟨i8, hi8, hz8⟩ := Option.map_eq_some_iff.1 info_8
          simp only [Prod.mk.injEq] at hz8
          obtain ⟨A2, hA2⟩ : ∃ A2, A2 = (if c = m then A else A.map (·.add (m * 1))) := ⟨_, rfl⟩
          have hlt1 : rest.length = t.length + 1 := by rw [hrest]; rfl
          have hcut : ∀ W : World, (Instr.slice 28 (.slice A rest.length c) (some (.int .i64 (m : Int))) none none).run Tryz.prog W = .ok (.slice A2 (rest.length - m) (c - m)) W := by
            intro W
            have := cut_from (P := Tryz.prog) 28 5 .i64 Tryz.underlying28 hi8 1 hz8.2.1 A rest.length c (m : Int) (by omega) (by omega) W
            rw [hA2]
            simpa using this
          have hat_0 : 0 ≤ at_ := by omega
          have hat_1 : at_ ≤ 5000000000000000 := by omega
          obtain ⟨k0, hk0⟩ := HK.out
          have HDR := Aside0.mk (show ∃ k, rest.drop m = all.drop k from ⟨k0 + m, by rw [hk0, List.drop_drop]⟩)
          have HNX := Aside0.mk (fun (wq w2 : World) (lv2 : Value) (hq : Drawn0 wr wq) (hR2 : Kd.R k202 TP w2 W1.heap.size (fun _ => True) lv2 (pts ++ [(⟨r, at_, m⟩ : S202)])) (hb2 : Below W1.heap.size wq w2) =>
            Inv.next hrest he hc hC hA hg hd hch hs hp hgl hq hR2 hb2 A2 hA2)
          have HRR := Aside0.mk hR
          have HGG := Aside0.mk hg
          have hpl : pts.length ≤ 1000000000 := by omega
          have hmr : m ≤ rest.length := by omega
          clear hlt1 hfinI hC hg hd hch hs hp hA hR hrest HI hone hcall hbr he hi8 hz8 hA2 hk0 hm
          go_wp2_with (first | (go_at_call 148; go_must (have t0 := HCALL.out; refine t0.mono ?_; rintro e wq ⟨rfl, hq⟩; have HQ := Aside0.mk hq; have hgq := HQ.out.below.block g hge |>.trans HGG.out; have hc1 : wq.cell? ⟨g, 1, none⟩ = some (.int .i64 at_) := (by simp [World.cell?, hgq]); have HG := Aside0.mk hgq; have HS := Aside0.mk (HQ.out.below.size); clear hq t0 HCALL hgq)) | (at_builtin; go_must (refine Kd.R_append k202 (w0 := wq) W1.heap.size rfl (.tmp 34) (.tmp 42) 172 TP (.agg #[.int .i32 0, .int .i64 0, .int .i64 0]) 24 rfl Tryz.underlying172 info_P rfl (by decide) (by decide) u6 pts (⟨r, at_, m⟩ : S202) [.int .i32 r, .int .i64 at_, .int .i64 m] (fun _ => True) (fun _ => False) rfl rfl (k202_mkM _ _ _ _) (fun _ h => h.elim) (fun _ _ => trivial) (Kd.R_below HRR.out HQ.out.below) (Below.refl _ _) (Nat.le_trans hs1 HS.out) (by omega) ?hh)))
          case hh =>
            intro v1 w2 hR2 hb2 hg2 hat2
            have hgw := (hb2.block g hgl).trans HG.out
            have hd1 : w2.cell? ⟨g, 1, none⟩ = some (.int .i64 at_) := by simp [World.cell?, hgw]
            have hf1 : w2.frozen? ⟨g, 1, none⟩ = false := by simp [World.frozen?, hgw]
            have HI2 := Aside0.mk (HNX.out wq w2 v1 HQ.out hR2 hb2)
            clear hR2 hb2 hg2 hat2 hgw HNX
            go_wp2
            go_roundw
            case rel => exact ⟨rest.drop m, HI2, HDR⟩
            case measure => simp [sliceLen]; omega
end Go.Proofs.YtdambnclbpipdaaGreatDoor.Ud
namespace Go.Proofs.YtdambnclbpipdaaGreatDoor.Dc
set_option linter.unusedVariables false
set_option linter.unusedSimpArgs false
open Go.RowKit Go.Proofs.YtdambnclbpipdaaGreatDoorW.PrintWords Go.Proofs.YtdambnclbpipdaaGreatDoor.Hp Go.Proofs.YtdambnclbpipdaaGreatDoor.Fm Go.Proofs.YtdambnclbpipdaaGreatDoor.X Go.Proofs.YtdambnclbpipdaaGreatDoor.Ux Go.Proofs.YtdambnclbpipdaaGreatDoor.Ud
def decT (g base : Nat) (kept : List Int) (at_ : Int) (closed : Bool) : Th :=
  ⟨fun ok w => IsDec g base kept at_ closed ok w, fun h hm => h.step hm, fun h => h.bound⟩
section
variable {w0 w w' : World} {L : List Th}
theorem NewS (h : Sep w0 L w) : Calls Tryz.prog 105 #[] w fun e w' => ∃ g, e = .returned (.pointer (some ⟨g, 0, none⟩)) ∧ Sep w0 (L ++ [decT g w0.heap.size [] 0 false]) w' := by
  refine (New w).mono ?_
  rintro e w' ⟨g, rfl, hg, hd, hb⟩
  exact ⟨g, rfl, h.new (decT g w0.heap.size [] 0 false) (ok := fun b => b = g) (hd.lower h.below.size) (fun b hb => by rw [hb]; exact hg) hb⟩
theorem WriteS (h : Sep w0 L w) (i : Nat) {g : Nat} {kept : List Int} {at0 : Int} (hi : L[i]? = some (decT g w0.heap.size kept at0 false)) (A : Option Addr) (n c : Nat) (bs : List Int) (hb : ReadsInt w .u8 A n bs)
    (hB : Bytes (kept ++ bs)) (hlen : kept.length + n ≤ 1000000000) (hat : 0 ≤ at0 ∧ at0 ≤ 4000000000000000) :
    Calls Tryz.prog 108 #[.pointer (some ⟨g, 0, none⟩), .slice A n c] w fun e w' => ∃ A' c', e = .returned (.slice A' (dc (kept ++ bs) at0).1.length c') ∧
      Sep w0 (L.set i (decT g w0.heap.size (dc (kept ++ bs) at0).2.1 (dc (kept ++ bs) at0).2.2 false) ++ [rowT k202 TP w0.heap.size (.slice A' (dc (kept ++ bs) at0).1.length c') (dc (kept ++ bs) at0).1]) w' := by
  have hs := h.below.size
  obtain ⟨ok, h1, h2, h3⟩ := h.op2 i _ hi
  have h1' : IsDec g w0.heap.size kept at0 false ok w := h1
  refine (Write w g w0.heap.size kept at0 ok A n c bs h1' hb hB hlen hat).mono ?_
  rintro e w' ⟨lv, M, rfl, q1, q2, q3, q4⟩
  obtain ⟨A', c', rfl⟩ := Kd.R_slice q2
  refine ⟨A', c', rfl, h3 w' (decT _ _ _ _ _) (rowT _ _ _ _ _) (fun b => b = g ∨ M ≤ b) (fun b => b < M ∧ w.heap.size ≤ b) q3 (Kd.R_lower (Kd.R_mono (Kd.R_bound q2) (fun k hk => ⟨hk.1, hk.2.1⟩)) hs) ?_ (fun b hb => hb.2) ?_ q4⟩
  · intro b hb2
    rcases hb2 with rfl | hb2
    · exact .inl h1'.lt.2.2
    · exact .inr (Nat.le_trans q1 hb2)
  · intro b hb2 hb3
    have hgl := h1'.lt.1
    rcases hb2 with rfl | hb2 <;> omega
theorem CloseS (h : Sep w0 L w) (i : Nat) {g : Nat} {kept : List Int} {at0 : Int} (hi : L[i]? = some (decT g w0.heap.size kept at0 false)) :
    Calls Tryz.prog 109 #[.pointer (some ⟨g, 0, none⟩)] w fun e w' => ∃ A' c', e = .returned (.slice A' (rest1 kept at0).length c') ∧
      Sep w0 (L.set i (decT g w0.heap.size [] at0 true) ++ [rowT k202 TP w0.heap.size (.slice A' (rest1 kept at0).length c') (rest1 kept at0)]) w' := by
  have hs := h.below.size
  obtain ⟨ok, h1, h2, h3⟩ := h.op2 i _ hi
  have h1' : IsDec g w0.heap.size kept at0 false ok w := h1
  refine (Close w g w0.heap.size kept at0 ok h1').mono ?_
  rintro e w' ⟨lv, rfl, q1, q2, q3⟩
  obtain ⟨A', c', rfl⟩ := Kd.R_slice q1
  refine ⟨A', c', rfl, h3 w' (decT _ _ _ _ _) (rowT _ _ _ _ _) (fun b => b = g) (fun b => w.heap.size ≤ b) q2 (Kd.R_lower (Kd.R_mono (Kd.R_bound q1) (fun k hk => hk.2.1)) hs) ?_ (fun b hb => hb) ?_ (q3.mono (fun k _ hk => by rw [hk]; exact h1'.lt.2.2))⟩
  · intro b hb2
    rw [hb2]
    exact .inl h1'.lt.2.2
  · intro b hb2 hb3
    have hgl := h1'.lt.1
    omega
end
end Go.Proofs.YtdambnclbpipdaaGreatDoor.Dc
namespace Go.Proofs.YtdambnclbpipdaaGreatDoor.Sx
set_option linter.unusedVariables false
set_option linter.unusedSimpArgs false
open Go.RowKit Go.Proofs.YtdambnclbpipdaaGreatDoorW.PrintWords Go.Proofs.YtdambnclbpipdaaGreatDoor.Hp
theorem reads_string {P : Program} {w : World} {src dst e : TypeId} {A : Option Addr} {n c : Nat} {xs : List Int} (hs : P.underlying src = some (.slice e)) (he : P.underlying e = some (.int .u8)) (hd : P.underlying dst = some .string) (h : ReadsInt w .u8 A n xs) :
    (convert src dst (.slice A n c)).run P w = .ok (.string (strOfNums xs)) w := by
  have hl := h.1
  cases A with
  | none =>
    have h0 : n = 0 := by
      rcases Nat.eq_zero_or_pos n with h0 | h0
      · exact h0
      · obtain ⟨ad, e1, _⟩ := h.2.2 h0; cases e1
    obtain rfl : xs = [] := List.eq_nil_of_length_eq_zero (by omega)
    exact run_convert_bytes_nil w src e hs he n c dst hd
  | some a =>
    have hload : (loadCells a n).run P w = .ok (xs.map (Value.int .u8)).toArray w := by
      have := run_loadCells_list (P := P) w a (xs.map (Value.int .u8)) (fun j v hj => by
        have hjl : j < xs.length := by
          rcases Nat.lt_or_ge j xs.length with h | h
          · exact h
          · simp [List.getElem?_eq_none (show (xs.map (Value.int .u8)).length ≤ j by simpa using h)] at hj
        obtain ⟨ad, e1, hc⟩ := h.2.2 (by omega)
        cases e1
        rw [hc j (by omega)]
        simp [List.getElem?_eq_getElem hjl] at hj
        subst hj
        simp [List.getD, List.getElem?_eq_getElem hjl])
      simpa [hl] using this
    rw [run_convert_bytes_string w src dst e _ n c hs he hd, run_bytesToString w _ n c xs hload, foldl_push_bytes]
    simp [strOfNums, ByteArray.empty, ByteArray.emptyWithCapacity]
    rfl
end Go.Proofs.YtdambnclbpipdaaGreatDoor.Sx
namespace Go.Proofs.YtdambnclbpipdaaGreatDoor.Ud
set_option linter.unusedVariables false
set_option linter.unusedSimpArgs false
open Go.RowKit Go.Proofs.YtdambnclbpipdaaGreatDoorW.PrintWords Go.Proofs.YtdambnclbpipdaaGreatDoor.Hp Go.Proofs.YtdambnclbpipdaaGreatDoor.X Go.Proofs.YtdambnclbpipdaaGreatDoor.Ux
theorem k72_KM {w w' : World} {base : Nat} {ok : Nat → Prop} (x : S202) (cs : List Value) (h : k202.K w x cs) : k202.M w' base ok x cs := by
  obtain rfl := k202_open h
  exact k202_mkM _ _ _ _
theorem full_len (b : List Int) : (full b).length ≤ b.length := by
  have := dc_len b 0
  unfold full rest1
  rw [List.length_append]
  split
  · simp; omega
  · rename_i h
    have : (dc b 0).2.1.length ≠ 0 := fun e => h (List.eq_nil_of_length_eq_zero e)
    simp; omega
def DecPost (w : World) (bs : List Int) (e : Ending) (w' : World) : Prop := ∃ A c, e = .returned (.slice A (full bs).length c) ∧ (full bs).length ≤ c ∧ Kd.R k202 TP w' w.heap.size (fun _ => True) (.slice A (full bs).length c) (full bs) ∧ Below w.heap.size w w'
set_option maxRecDepth 100000 in
set_option maxHeartbeats 2000000 in
theorem Decode (w : World) (A : Option Addr) (n c : Nat) (bs : List Int) (hb : ReadsInt w .u8 A n bs) (hB : Bytes bs) (hlen : n ≤ 1000000000) :
    Calls Tryz.prog 151 #[.slice A n c] w (DecPost w bs) := by
  have hbn := hb.1
  have HB := Aside0.mk hb
  have HBY := Aside0.mk hB
  have HBN := Aside0.mk hbn
  clear hb hB hbn
  go_enter Tryz.func151, Tryz.ntmps151
  go_wp2_with (first | (go_at_call 105; refine (New w).mono ?_; rintro e w1 ⟨g, rfl, p0, p1, p2⟩; have P0 := Aside0.mk p0; have P1 := Aside0.mk p1; have P2 := Aside0.mk p2; clear p0 p1 p2) | (go_at_call 108; go_must (refine (Write w1 g w.heap.size [] 0 _ A n c bs P1.out (HB.out.below P2.out) HBY.out (by simp; omega) (by omega)).mono ?_; rintro e w2 ⟨lv, M, rfl, q1, q2, q3, q4⟩; have Q1 := Aside0.mk q1; have Q2 := Aside0.mk q2; have Q3 := Aside0.mk q3; have Q4 := Aside0.mk q4; clear q1 q2 q3 q4)) | (go_at_call 109; go_must (refine (Close w2 g w.heap.size _ _ _ Q3.out).mono ?_; rintro e w3 ⟨lv2, rfl, r1, r2, r3⟩; obtain ⟨A2, c2, rfl, hc2, hC2⟩ := Kd.R_reads r1; have R1 := Aside0.mk hC2; have R3 := Aside0.mk r3; clear r1 r2 r3 hC2)) | (at_builtin; go_must (refine Kd.R_append_rows k202 (Rr := k202.K w3) (w0 := w3) w.heap.size rfl (.tmp 7) (.tmp 9) 172 TP (.agg #[.int .i32 0, .int .i64 0, .int .i64 0]) 24 rfl Tryz.underlying172 info_P rfl (by decide) (by decide) lv (dc bs 0).1 (rest1 (dc bs 0).2.1 (dc bs 0).2.2) A2 _ c2 (fun _ => True) (fun _ => False) rfl rfl ?ho R1.out (fun x cs h => k72_KM x cs h) (fun _ h => h.elim) (fun _ _ => trivial) (Below.refl _ _) ?hb ?hl ?hh)))
  case ho =>
    have hg := P1.out.lt.1
    have h1 := Kd.R_bound Q2.out
    exact Kd.R_mono (Kd.R_lower (R_chg h1 R3.out (fun k hk he => by have := hk.2.1; omega)) P2.out.size) (fun _ _ => trivial)
  case hb => have h1 := P2.out.size; have h2 := Q4.out.size; have h3 := R3.out.size; omega
  case hl =>
    have h1 := dc_len bs 0
    have h2 := dc_rest bs 0
    have h3 : (rest1 (dc bs 0).2.1 (dc bs 0).2.2).length ≤ 1 := by unfold rest1; split <;> simp
    have h4 := HBN.out
    omega
  case hh =>
    intro v1 w4 hR hb4 hg4 hat4
    have hfull : (dc bs 0).1 ++ rest1 (dc bs 0).2.1 (dc bs 0).2.2 = full bs := rfl
    rw [hfull] at hR
    obtain ⟨A5, c5, rfl, hc5, hC5⟩ := Kd.R_reads hR
    have HR := Aside0.mk hR
    have HB4 := Aside0.mk hb4
    clear hR hb4 hg4 hat4 hC5 hfull
    have hL := HR.out
    obtain ⟨L, hLL⟩ : ∃ L, L = (full bs).length := ⟨_, rfl⟩
    rw [← hLL]
    have HLL := Aside0.mk hLL
    clear hLL hL
    go_wp2
    go_ret
    have e := HLL.out
    subst e
    refine ⟨A5, c5, rfl, hc5, HR.out, ?_⟩
    have b2 : Below w.heap.size w w2 := Q4.out.below_of P2.out (fun b hb => by rw [hb]; exact P0.out)
    have b3 : Below w.heap.size w w3 := R3.out.below_of b2 (fun b hb => by rw [hb]; exact P0.out)
    exact b3.trans HB4.out
end Go.Proofs.YtdambnclbpipdaaGreatDoor.Ud
namespace Go.Proofs.YtdambnclbpipdaaGreatDoor.X
set_option linter.unusedVariables false
set_option linter.unusedSimpArgs false
open Go.RowKit Go.Proofs.YtdambnclbpipdaaGreatDoorW.PrintWords Go.Proofs.YtdambnclbpipdaaGreatDoorW.PrintLast Go.Proofs.YtdambnclbpipdaaGreatDoorW.PrintMore Go.Proofs.YtdambnclbpipdaaGreatDoor.Ux Go.Proofs.YtdambnclbpipdaaGreatDoor.Ud
def runesOf (s : ByteArray) : List Int := (full (bytesOf s)).map (·.f0)
def norm_Runes.f (a0 : ByteArray) : Option (List Int) := if a0.size ≤ 1000000000 then some (runesOf a0) else none
theorem bytesOf_Bytes (s : ByteArray) : Bytes (bytesOf s) := fun x hx => by
  unfold bytesOf at hx
  obtain ⟨b, _, rfl⟩ := List.mem_map.1 hx
  have := b.toNat_lt
  omega
set_option maxHeartbeats 8000000 in
set_option maxRecDepth 100000 in
theorem norm_Runes.calls (a0 : ByteArray) (r : List Int) (w : World) (h : norm_Runes.f a0 = some r) :
    Calls Tryz.prog 114 #[.string a0] w fun e w' => ∃ v0_ : Value, e = .returned (v0_) ∧ Kd.R (Kd.int .i32) 21 w' w.heap.size (fun _ => True) v0_ r ∧ Below w.heap.size w w' := by
  unfold norm_Runes.f at h
  split at h
  case isFalse => exact absurd h (by simp)
  case isTrue hl =>
    have h := Option.some.inj h
    have HR := Aside0.mk h.symm
    have hl2 : a0.size ≤ 9223372036854775807 := by omega
    have HL := Aside0.mk hl
    have HL2 := Aside0.mk hl2
    clear h hl hl2
    have kb := fun W => print_bytes (P := Tryz.prog) 9 28 5 Tryz.underlying9 Tryz.underlying28 Tryz.underlying5 a0 W
    have HB := Aside0.mk (Below.refl w.heap.size w)
    go_enter Tryz.func114, Tryz.ntmps114
    go_wp2_with (first | (go_at_call 151; go_must (refine (Decode (Lib.bytesWorld w 5 a0) _ _ _ (bytesOf a0) (bytes_reads w 5 a0 HL2.out) (bytesOf_Bytes a0) HL.out).mono ?_; rintro e w1 ⟨A, c, rfl, p0, p1, p2⟩; have HC := Aside0.mk p0; have HO := Aside0.mk (Kd.R_lower p1 (bytes_below (Below.refl w.heap.size w) (Nat.le_refl _) 5 a0).size); have HB1 := Aside0.mk ((bytes_below (Below.refl w.heap.size w) (Nat.le_refl _) 5 a0).trans (p2.mono (bytes_below (Below.refl w.heap.size w) (Nat.le_refl _) 5 a0).size)); clear p0 p1 p2)))
    have hlen : (full (bytesOf a0)).length ≤ 1000000000 := Nat.le_trans (full_len _) (by rw [bytesOf_length]; exact HL.out)
    have HLN := Aside0.mk hlen
    obtain ⟨ps, hps⟩ : ∃ ps, ps = full (bytesOf a0) := ⟨_, rfl⟩
    rw [← hps] at HC HO HLN ⊢
    have HR2 := Aside0.mk (show r = ps.map (·.f0) by rw [HR.out, hps]; rfl)
    clear hps HR hlen
    go_loopw [3, 10] (fun v3 v10 w' => ∃ (i : Nat) (xs : List Int), v10 = .int .i64 i ∧ i ≤ ps.length ∧ Aside0 (xs = (ps.take i).map (·.f0)) ∧ Aside0 (Kd.R (Kd.int .i32) 21 w' w.heap.size (fun _ => True) v3 xs) ∧ Aside0 (Kd.R k202 202 w' w.heap.size (fun _ => True) (.slice A ps.length c) ps) ∧ Aside0 (Below w.heap.size w w')) (fun _ v10 _ => ps.length - (intOf v10).toNat)
    case atStart => exact ⟨0, [], rfl, Nat.zero_le _, ⟨by simp⟩, ⟨Kd.R_nil _ _ _ _ _⟩, HO, HB1⟩
    case round =>
      clear HO HB1
      obtain ⟨i, xs, rfl, hi, HX, HO_3, HO_4, HB1⟩ := hrel
      by_cases hlt : i < ps.length
      · have hd : decide ((i : Int) < (ps.length : Int)) = true := decide_eq_true (by omega)
        have hd2 : decide (i < ps.length) = true := decide_eq_true hlt
        obtain ⟨ad, rfl, h1, h2, h3⟩ := at_T202 (Kd.R_reads' HO_4.out).2.2 (i : Int) (by omega) (by omega)
        have hrd : rd_T202 ps (i : Int) = ps[i] := by unfold rd_T202; simp [List.getD_eq_getElem?_getD, List.getElem?_eq_getElem hlt]
        rw [hrd] at h1 h2 h3
        simp only [Int.toNat_natCast] at h1 h2 h3
        have hpl := HLN.out
        have hn0 : (0 : Int) ≤ (i : Int) := by omega
        have hn1 : (i : Int) < (ps.length : Int) := by omega
        obtain ⟨y, hy⟩ : ∃ y : List Int, y = xs ++ [ps[i].f0] := ⟨_, rfl⟩
        have HY := Aside0.mk hy
        have LM := Aside0.mk (show xs.length < 35184372088832 by have := HLN.out; rw [HX.out, List.length_map, List.length_take]; omega)
        have HXl := Aside0.mk (show y = (ps.take (i + 1)).map (·.f0) by rw [hy, HX.out, List.take_succ_eq_append_getElem hlt, List.map_append]; rfl)
        clear hy hrd
        go_wp2_with (first | (at_builtin; go_must (refine Kd.R_append (Kd.int .i32) (w0 := w) w.heap.size rfl (.tmp 14) (.tmp 17) 167 21 (.int .i32 0) 4 rfl Tryz.underlying167 info21 rfl (by decide) (by omega) u3 xs (ps[i].f0) [.int .i32 (ps[i].f0)] (fun _ => True) (fun _ => False) rfl (congrArg (fun k => Value.slice (some ⟨k, 0, none⟩) 1 1) (Array.size_push _).symm) ?aP (fun _ hk => hk.elim) ?aF ?aO ?aB ?aS ?aL ?_; (case aP => exact rfl); (case aB => exact (by repeat (first | (with_reducible first | exact HB1.out | apply below_alloc | apply pw_below_drewN | apply below_drew1) | exact HB1.out))); (case aF => exact (fun _ _ => trivial)); (case aO => exact (by (with_reducible repeat (first | apply Kd.R_alloc | apply Kd.R_drewN | apply Kd.R_drew)); exact HO_3.out)); (case aS => exact (below_size (by repeat (first | (with_reducible first | exact HB1.out | apply below_alloc | apply pw_below_drewN | apply below_drew1) | exact HB1.out)))); (case aL => have := LM.out; omega); intro v287 w8 ho hb hg hat; rw [← HY.out] at ho; have n0_ := Aside0.mk (Kd.R_over' (by (with_reducible repeat (first | apply Kd.R_alloc | apply Kd.R_drewN | apply Kd.R_drew)); exact HO_4.out) (Kd.R_typed (by (with_reducible repeat (first | apply Kd.R_alloc | apply Kd.R_drewN | apply Kd.R_drew)); exact HO_3.out)) (by decide) hg); have n1_ := Aside0.mk (hb); have n2_ := Aside0.mk (ho); clear HO_4; clear HB1; clear HO_3; have HO_4 := n0_; have HB1 := n1_; have HO288 := n2_; clear n0_ n1_ n2_; clear ho hb hg hat)))
        go_roundw
        case rel => exact ⟨i + 1, y, by first | go_num | (rw [show wrap64 ((i : Int) + 1) = ((i + 1 : Nat) : Int) by rw [wrap64_in] <;> omega]), by omega, HXl, HO288, HO_4, HB1⟩
        case measure => simp [intOf] <;> omega
      · have hd : decide ((i : Int) < (ps.length : Int)) = false := decide_eq_false (by omega)
        have hd2 : decide (i < ps.length) = false := decide_eq_false hlt
        go_wp2
        go_ret
        refine ⟨_, rfl, ?_, HB1.out⟩
        have h := HX.out
        rw [show i = ps.length by omega, List.take_length] at h
        rw [HR2.out, ← h]
        exact HO_3.out
end Go.Proofs.YtdambnclbpipdaaGreatDoor.X
namespace Go.Proofs.YtdambnclbpipdaaGreatDoor.Ot
set_option linter.unusedVariables false
set_option linter.unusedSimpArgs false
open Go.RowKit Go.Proofs.YtdambnclbpipdaaGreatDoorW.PrintWords Go.Proofs.YtdambnclbpipdaaGreatDoor.Ev0 Go.Proofs.YtdambnclbpipdaaGreatDoor.X Go.Proofs.YtdambnclbpipdaaGreatDoor.Ux Go.Proofs.YtdambnclbpipdaaGreatDoor.Va Go.Proofs.YtdambnclbpipdaaGreatDoor.Ve Go.Proofs.YtdambnclbpipdaaGreatDoor.Vp0 Go.Proofs.YtdambnclbpipdaaGreatDoor.Vu Go.Proofs.YtdambnclbpipdaaGreatDoor.Na Go.Proofs.YtdambnclbpipdaaGreatDoor.Oa Go.Proofs.YtdambnclbpipdaaGreatDoor.Ob
theorem wf_bytes {xs : List Int} (h : ∀ x, x ∈ xs → (Lit.int .u8 x).wf = true) : Bytes xs := fun x hx => by
  have := h x hx
  simpa [Lit.wf, IntKind.min, IntKind.max, IntKind.signed, IntKind.bits] using this
theorem bytes_str (l : List Int) (hb : Bytes l) : bytesOf (strOfNums l) = l := by
  unfold bytesOf
  rw [strOfNums_data, List.map_map]
  conv => rhs; rw [← List.map_id l]
  refine List.map_congr_left fun x hx => ?_
  have := hb x hx
  show (((UInt8.ofNat x.toNat).toNat : Nat) : Int) = x
  rw [UInt8.toNat_ofNat']
  omega
theorem cont_range : ∀ (bs : List (Int × Int)) (t : List Int) (r i : Int), 0 ≤ r → 0 ≤ (cont bs t r i).1 ∧ ((cont bs t r i).1 = 65533 ∨ (cont bs t r i).1 < (r + 1) * 64 ^ bs.length)
  | [], t, r, i, h => by simp only [cont, List.length_nil, Int.pow_zero, Int.mul_one]; omega
  | b :: bs, [], r, i, h => ⟨show (0 : Int) ≤ 65533 by decide, .inl rfl⟩
  | (lo, hi) :: bs, x :: t, r, i, h => by
    simp only [cont]
    split
    · exact ⟨show (0 : Int) ≤ 65533 by decide, .inl rfl⟩
    · have hx : 0 ≤ x % 64 ∧ x % 64 < 64 := by omega
      have h1 := cont_range bs t (r * 64 + x % 64) (i + 1) (by omega)
      refine ⟨h1.1, h1.2.imp id fun h2 => Int.lt_of_lt_of_le h2 ?_⟩
      rw [List.length_cons, Int.pow_succ, Int.mul_comm (64 ^ bs.length) 64, ← Int.mul_assoc]
      exact Int.mul_le_mul_of_nonneg_right (by omega) (Int.le_of_lt (Int.pow_pos (by decide)))
theorem one1_32 (c : Int) (t : List Int) (hc : 0 ≤ c ∧ c ≤ 255) : I32 (one1 c t).1 := by
  unfold one1 I32
  cases h : bnd c with
  | none => simp
  | some bs =>
    have hl := bnd_len h
    have hs : 0 ≤ st c ∧ st c ≤ 127 := by unfold st; repeat' split <;> omega
    have h1 := cont_range bs t (st c) 1 hs.1
    have h2 : (st c + 1) * 64 ^ bs.length ≤ 128 * 64 ^ 3 := by
      refine Int.mul_le_mul (by omega) ?_ (Int.le_of_lt (Int.pow_pos (by decide))) (by decide)
      have : (64 : Int) ^ bs.length ≤ 64 ^ 3 := by
        rcases (show bs.length = 0 ∨ bs.length = 1 ∨ bs.length = 2 ∨ bs.length = 3 by omega) with e | e | e | e <;> rw [e] <;> decide
      exact this
    have h3 : (128 : Int) * 64 ^ 3 = 33554432 := by decide
    rw [h3] at h2
    show -2147483648 ≤ (cont bs t (st c) 1).1 ∧ (cont bs t (st c) 1).1 ≤ 2147483647
    omega
theorem dec_32 : ∀ (k : Nat) (b : List Int) (p : Int), Bytes b → ∀ y ∈ (dec k b p).1, I32 y.f0
  | 0, b, p, _, y, hy => by simp [dec] at hy
  | k + 1, [], p, _, y, hy => by simp [dec] at hy
  | k + 1, c :: t, p, hb, y, hy => by
    have hc := hb c (List.mem_cons_self ..)
    simp only [dec] at hy
    split at hy
    · simp at hy
    · rcases List.mem_cons.1 hy with rfl | hy
      · exact one1_32 c t hc
      · exact dec_32 k _ _ (fun x hx => hb x (List.mem_of_mem_drop hx)) y hy
theorem runes32 (l : List Int) (hb : Bytes l) : ∀ x ∈ (full l).map (·.f0), I32 x := by
  intro x hx
  obtain ⟨y, hy, rfl⟩ := List.mem_map.1 hx
  rcases List.mem_append.1 hy with hy | hy
  · exact dec_32 _ _ _ hb y hy
  · unfold rest1 at hy
    split at hy
    · simp at hy
    · rw [List.mem_singleton.1 hy]; show -2147483648 ≤ (65533 : Int) ∧ (65533 : Int) ≤ 2147483647; decide
def rns (l : List Int) : List Int := (full l).map (·.f0)
end Go.Proofs.YtdambnclbpipdaaGreatDoor.Ot
namespace Go.Proofs.YtdambnclbpipdaaGreatDoor.Sga
set_option linter.unusedVariables false
set_option linter.unusedSimpArgs false
open Go.Proofs.YtdambnclbpipdaaGreatDoor.Vd (decU)
open Go.Proofs.YtdambnclbpipdaaGreatDoor.Fr (K3 T3)
open Go.Proofs.YtdambnclbpipdaaGreatDoor.En (enc enc_pure enc_len enc_byte)
open Go.RowKit Go.Proofs.YtdambnclbpipdaaGreatDoorW.PrintWords Go.Proofs.YtdambnclbpipdaaGreatDoor.Hp Go.Proofs.YtdambnclbpipdaaGreatDoor.Fm Go.Proofs.YtdambnclbpipdaaGreatDoor.X Go.Proofs.YtdambnclbpipdaaGreatDoor.Va Go.Proofs.YtdambnclbpipdaaGreatDoor.Oa Go.Proofs.YtdambnclbpipdaaGreatDoor.Vp0 Go.Proofs.YtdambnclbpipdaaGreatDoor.Cn
abbrev TS : Nat := 169
abbrev TG : Nat := 154
abbrev KB : Kd Int := Kd.int .u8
abbrev kG := k154
def txt (o : List Int) : ByteArray := strOfNums (enc (nrm o))
theorem EncR (w : World) (A : Option Addr) (n c : Nat) (l : List Int) (hC : K3.C w A n l) (hn : n = l.length) (hc : n ≤ c) (hl : n ≤ 1000000000) :
    Calls Tryz.prog 116 #[.slice A n c] w fun e w' => ∃ A' m c', e = .returned (.slice A' m c') ∧ m = (enc l).length ∧ m ≤ c' ∧ KB.C w' A' m (enc l) ∧ Below w.heap.size w w' := by
  subst hn
  refine (utf_Encode.calls (2 * l.length + 1) A c l (enc l) w hC hc (enc_pure l (by omega))).mono ?_
  rintro e w' ⟨v, rfl, p1, p2⟩
  obtain ⟨A', c', rfl, hc', hC'⟩ := Kd.R_reads p1
  exact ⟨A', _, c', rfl, rfl, hc', hC', p2⟩
def segCells (gd : Nat) (lim : Int) (ov : Value) (a e : Int) (cl : Bool) (er : Int) : Array Value := #[.pointer (some ⟨gd, 0, none⟩), .int .i64 lim, ov, .int .i64 a, .int .i64 e, .bool cl, .int .i64 er]
set_option maxRecDepth 100000 in
set_option maxHeartbeats 4000000 in
theorem WholeP (w : World) (hG : G w) (g gd : Nat) (lim a e er : Int) (cl : Bool) (A : Option Addr) (n c : Nat) (o : List Int) (hb : w.heap[g]? = some (.cells (segCells gd lim (.slice A n c) a e cl er) TS (0, 0))) (hC : K3.C w A n o) (hn : n = o.length) (hc : n ≤ c) (hwf : ∀ x ∈ o, I32 x) (hl : n ≤ 60000000) :
    Calls Tryz.prog 110 #[.pointer (some ⟨g, 0, none⟩)] w fun E w' => E = .returned (.agg #[.string (txt o), .int .i64 a, .int .i64 e]) ∧ Below w.heap.size w w' := by
  have hnl := nrm_len3 o hwf
  obtain ⟨q, hq⟩ : ∃ q, q = (nrm o).length := ⟨_, rfl⟩
  have hq5 : q ≤ 180000000 := by omega
  have HQ := Aside0.mk hq
  have HN := Aside0.mk hn
  have HG := Aside0.mk hG
  have HC := Aside0.mk hC
  have HWF := Aside0.mk hwf
  have HB := Aside0.mk hb
  clear hq hn hG hC hwf hb hnl
  go_enter Tryz.func110, Tryz.ntmps110
  go_upto_region 1 with (fail)
  obtain ⟨w1, hw1⟩ : ∃ w1, w1 = w.alloc (.cells #[.string ⟨#[]⟩, .int .i64 0, .int .i64 0] TG) := ⟨_, rfl⟩
  have HB1 := Aside0.mk (show Below w.heap.size w w1 by rw [hw1]; exact below_alloc (Below.refl _ _) _)
  have HN1 := Aside0.mk (show w1.heap[w.heap.size]? = some (.cells #[.string ⟨#[]⟩, .int .i64 0, .int .i64 0] TG (0, 0)) by rw [hw1]; exact heap_alloc_new w _)
  rw [← hw1]
  obtain ⟨r, hr⟩ : ∃ r, r = w.heap.size := ⟨_, rfl⟩
  rw [← hr] at HN1 ⊢
  have HR := Aside0.mk hr
  clear hw1 hr
  have HD := Aside0.mk (((Drawn0.refl w1).step 1).below)
  refine wp_region_held_drew (S := fun W => Below w.heap.size w W) (by kernel_rfl) (below_step HB1.out HD.out) (fun hS => ?_)
  have HL := Aside0.mk (show ∀ W, Below w.heap.size w W → W.heap[g]? = some (.cells (segCells gd lim (.slice A n c) a e cl er) TS (0, 0)) from fun W h => blk_below HB.out h)
  refine wpAnyH_take (i := 0) (oi := { dst := some 3, op := _, type := _, pos := _, after := _, guard := _ }) (v := .pointer (some ⟨g, 0, none⟩)) rfl (by kernel_rfl) (by kernel_rfl) (by kernel_rfl) (fun _ _ _ h => h) (Or.inl ⟨by rfl, fun W hW => ?_⟩) hS ?_
  · (go_simp)
  try simp only [Act.put, List.setIfInBounds_toArray, List.set_cons_zero, List.set_cons_succ]
  refine wpAnyH_take (i := 1) (oi := { dst := some 4, op := _, type := _, pos := _, after := _, guard := _ }) (v := .pointer (some ⟨g, 0, none⟩)) rfl (by kernel_rfl) (by kernel_rfl) (by kernel_rfl) (fun _ _ _ h => h) (Or.inl ⟨by rfl, fun W hW => ?_⟩) hS ?_
  · (go_simp)
  try simp only [Act.put, List.setIfInBounds_toArray, List.set_cons_zero, List.set_cons_succ]
  refine wpAnyH_take (i := 2) (oi := { dst := some 5, op := _, type := _, pos := _, after := _, guard := _ }) (v := .pointer (some ⟨g, 2, none⟩)) rfl (by kernel_rfl) (by kernel_rfl) (by kernel_rfl) (fun _ _ _ h => h) (Or.inl ⟨by rfl, fun W hW => ?_⟩) hS ?_
  · (go_simp)
  try simp only [Act.put, List.setIfInBounds_toArray, List.set_cons_zero, List.set_cons_succ]
  refine wpAnyH_take (i := 3) (oi := { dst := some 6, op := _, type := _, pos := _, after := _, guard := _ }) (v := .slice A n c) rfl (by kernel_rfl) (by kernel_rfl) (by kernel_rfl) (fun _ _ _ h => h) (Or.inl ⟨by rfl, fun W hW => ?_⟩) hS ?_
  · (have hcell := blk_cell (HL.out W hW) 2; simp only [segCells] at hcell; go_simp)
  try simp only [Act.put, List.setIfInBounds_toArray, List.set_cons_zero, List.set_cons_succ]
  refine wpAnyH_take (i := 7) (oi := { dst := some 10, op := _, type := _, pos := _, after := _, guard := _ }) (v := .pointer (some ⟨g, 0, none⟩)) rfl (by kernel_rfl) (by kernel_rfl) (by kernel_rfl) (fun _ _ _ h => h) (Or.inl ⟨by rfl, fun W hW => ?_⟩) hS ?_
  · (go_simp)
  try simp only [Act.put, List.setIfInBounds_toArray, List.set_cons_zero, List.set_cons_succ]
  refine wpAnyH_take (i := 8) (oi := { dst := some 11, op := _, type := _, pos := _, after := _, guard := _ }) (v := .pointer (some ⟨g, 0, none⟩)) rfl (by kernel_rfl) (by kernel_rfl) (by kernel_rfl) (fun _ _ _ h => h) (Or.inl ⟨by rfl, fun W hW => ?_⟩) hS ?_
  · (go_simp)
  try simp only [Act.put, List.setIfInBounds_toArray, List.set_cons_zero, List.set_cons_succ]
  refine wpAnyH_take (i := 9) (oi := { dst := some 12, op := _, type := _, pos := _, after := _, guard := _ }) (v := .pointer (some ⟨g, 3, none⟩)) rfl (by kernel_rfl) (by kernel_rfl) (by kernel_rfl) (fun _ _ _ h => h) (Or.inl ⟨by rfl, fun W hW => ?_⟩) hS ?_
  · (go_simp)
  try simp only [Act.put, List.setIfInBounds_toArray, List.set_cons_zero, List.set_cons_succ]
  refine wpAnyH_take (i := 10) (oi := { dst := some 13, op := _, type := _, pos := _, after := _, guard := _ }) (v := .int .i64 a) rfl (by kernel_rfl) (by kernel_rfl) (by kernel_rfl) (fun _ _ _ h => h) (Or.inl ⟨by rfl, fun W hW => ?_⟩) hS ?_
  · (have hcell := blk_cell (HL.out W hW) 3; simp only [segCells] at hcell; go_simp)
  try simp only [Act.put, List.setIfInBounds_toArray, List.set_cons_zero, List.set_cons_succ]
  refine wpAnyH_take (i := 11) (oi := { dst := some 14, op := _, type := _, pos := _, after := _, guard := _ }) (v := .pointer (some ⟨g, 0, none⟩)) rfl (by kernel_rfl) (by kernel_rfl) (by kernel_rfl) (fun _ _ _ h => h) (Or.inl ⟨by rfl, fun W hW => ?_⟩) hS ?_
  · (go_simp)
  try simp only [Act.put, List.setIfInBounds_toArray, List.set_cons_zero, List.set_cons_succ]
  refine wpAnyH_take (i := 12) (oi := { dst := some 15, op := _, type := _, pos := _, after := _, guard := _ }) (v := .pointer (some ⟨g, 0, none⟩)) rfl (by kernel_rfl) (by kernel_rfl) (by kernel_rfl) (fun _ _ _ h => h) (Or.inl ⟨by rfl, fun W hW => ?_⟩) hS ?_
  · (go_simp)
  try simp only [Act.put, List.setIfInBounds_toArray, List.set_cons_zero, List.set_cons_succ]
  refine wpAnyH_take (i := 13) (oi := { dst := some 16, op := _, type := _, pos := _, after := _, guard := _ }) (v := .pointer (some ⟨g, 4, none⟩)) rfl (by kernel_rfl) (by kernel_rfl) (by kernel_rfl) (fun _ _ _ h => h) (Or.inl ⟨by rfl, fun W hW => ?_⟩) hS ?_
  · (go_simp)
  try simp only [Act.put, List.setIfInBounds_toArray, List.set_cons_zero, List.set_cons_succ]
  refine wpAnyH_take (i := 14) (oi := { dst := some 17, op := _, type := _, pos := _, after := _, guard := _ }) (v := .int .i64 e) rfl (by kernel_rfl) (by kernel_rfl) (by kernel_rfl) (fun _ _ _ h => h) (Or.inl ⟨by rfl, fun W hW => ?_⟩) hS ?_
  · (have hcell := blk_cell (HL.out W hW) 4; simp only [segCells] at hcell; go_simp)
  try simp only [Act.put, List.setIfInBounds_toArray, List.set_cons_zero, List.set_cons_succ]
  refine wpAnyH_ready (rs := [4]) (by kernel_rfl) (by simp) ?_
  refine AllReadyH.cons (o := { dst := some 7, op := _, type := _, pos := _, after := _, guard := _ }) rfl (fun K hK => ?_) AllReadyH.nil
  go_simp
  (go_at_call 113)
  refine (NormR _ (HG.out.below hS) A n c o (Kd.C_below HC.out hS) HN.out hc HWF.out (by omega)).mono ?_
  rintro E w2 ⟨v2, rfl, p1, p2⟩
  obtain ⟨A2, c2, e2, hc2, hC2⟩ := Kd.R_reads p1
  rw [← HQ.out] at e2 hc2 hC2
  subst e2
  have B2 := Aside0.mk (below_then HD.out HD.out.size p2)
  clear p1 p2
  go_wp2_with fail
  refine hK.out _ _ (below_step HB1.out B2.out) (fun hS2 => ?_)
  clear hK K hS
  have hS := hS2
  clear hS2
  try simp only [Act.put, List.setIfInBounds_toArray, List.set_cons_zero, List.set_cons_succ]
  refine wpAnyH_ready (rs := [5]) (by kernel_rfl) (by simp) ?_
  refine AllReadyH.cons (o := { dst := some 8, op := _, type := _, pos := _, after := _, guard := _ }) rfl (fun K hK => ?_) AllReadyH.nil
  go_simp
  (go_at_call 116)
  refine (EncR _ A2 q c2 (nrm o) hC2 HQ.out hc2 (by omega)).mono ?_
  rintro E w3 ⟨A3, m3, c3, rfl, p0, p1, p2, p3⟩
  have B3 := Aside0.mk (below_then B2.out B2.out.size p3)
  have hcv := Sx.reads_string (P := Tryz.prog) (c := c3) Tryz.underlying28 Tryz.underlying5 Tryz.underlying9 (rdint p2)
  rw [show strOfNums (enc (nrm o)) = txt o from rfl] at hcv
  clear p0 p1 p2 p3 B2 hC2
  go_wp2_with fail
  refine hK.out _ _ (below_step HB1.out B3.out) (fun hS2 => ?_)
  clear hK K hS
  have hS := hS2
  clear hS2
  try simp only [Act.put, List.setIfInBounds_toArray, List.set_cons_zero, List.set_cons_succ]
  refine wpAnyH_ready (rs := [6]) (by kernel_rfl) (by simp) ?_
  refine AllReadyH.cons (o := { dst := some 9, op := _, type := _, pos := _, after := _, guard := _ }) rfl (fun K hK => ?_) AllReadyH.nil
  go_simp
  refine hK.out _ _ hS (fun hS2 => ?_)
  clear hK K hS2 hcv
  try simp only [Act.put, List.setIfInBounds_toArray, List.set_cons_zero, List.set_cons_succ]
  refine wpAnyH_take (i := 15) (oi := { dst := some 18, op := _, type := _, pos := _, after := _, guard := _ }) (v := .agg #[.string (txt o), .int .i64 a, .int .i64 e]) rfl (by kernel_rfl) (by kernel_rfl) (by kernel_rfl) (fun _ _ _ h => h) (Or.inl ⟨by rfl, fun W hW => ?_⟩) hS ?_
  · (go_simp)
  try simp only [Act.put, List.setIfInBounds_toArray, List.set_cons_zero, List.set_cons_succ]
  have hbk := blk_below HN1.out B3.out
  have c0 := blk_cell hbk 0
  have c1 := blk_cell hbk 1
  have c2 := blk_cell hbk 2
  have f0 := blk_frozen hbk 0
  have f1 := blk_frozen hbk 1
  have f2 := blk_frozen hbk 2
  have k3 := blk_set (blk_set (blk_set hbk 0 (.string (txt o))) 1 (.int .i64 a)) 2 (.int .i64 e)
  have H3 := Aside0.mk k3
  have HS3 := Aside0.mk (show Below w.heap.size w (((w3.setCell ⟨r, 0, none⟩ (.string (txt o))).setCell ⟨r, 1, none⟩ (.int .i64 a)).setCell ⟨r, 2, none⟩ (.int .i64 e)) by
    have h1 := (Chg.of_below (below_step HB1.out B3.out) (S := fun b => b = r) (fun k h1 h2 => absurd h1 (by omega)))
    have hp : ∀ j : Nat, (fun b => b = r) (⟨r, j, none⟩ : Addr).block ∨ w.heap.size ≤ (⟨r, j, none⟩ : Addr).block := fun _ => .inl rfl
    exact (((h1.setCell (hp 0) _).setCell (hp 1) _).setCell (hp 2) _).below (fun k hk => ⟨hk, fun h => by have := HR.out; omega⟩))
  clear hbk k3
  refine wpAnyH_ready (rs := [16]) (by kernel_rfl) (by simp) ?_
  refine AllReadyH.cons (o := { dst := none, op := _, type := _, pos := _, after := _, guard := _ }) rfl (fun K hK => ?_) AllReadyH.nil
  go_simp
  refine hK.out _ _ HS3.out (fun hS2 => ?_)
  clear hK K hS hS2
  refine wpAnyH_done (by kernel_rfl) ?_ _
  have q0 := (blk_cell H3.out 0).trans (show _ = some (Value.string (txt o)) from rfl)
  have q1 := (blk_cell H3.out 1).trans (show _ = some (Value.int .i64 a) from rfl)
  have q2 := (blk_cell H3.out 2).trans (show _ = some (Value.int .i64 e) from rfl)
  clear c0 c1 c2 f0 f1 f2 H3 HL
  generalize (((w3.setCell ⟨r, 0, none⟩ (.string (txt o))).setCell ⟨r, 1, none⟩ (.int .i64 a)).setCell ⟨r, 2, none⟩ (.int .i64 e)) = w4 at q0 q1 q2 HS3 ⊢
  go_wp2
  exact bodyPost_ret (v := .agg #[.string (txt o), .int .i64 a, .int .i64 e]) (by simp [results, Tryz.results110, go_sem, q0, q1, q2]) rfl ⟨rfl, HS3.out⟩
end Go.Proofs.YtdambnclbpipdaaGreatDoor.Sga
namespace Go.Proofs.YtdambnclbpipdaaGreatDoor.Sgb
set_option linter.unusedVariables false
set_option linter.unusedSimpArgs false
open Go.Proofs.YtdambnclbpipdaaGreatDoor.Vd (decU)
open Go.Proofs.YtdambnclbpipdaaGreatDoor.Ve (opn)
open Go.Proofs.YtdambnclbpipdaaGreatDoor.Fr (K3 T3)
open Go.RowKit Go.Proofs.YtdambnclbpipdaaGreatDoorW.PrintWords Go.Proofs.YtdambnclbpipdaaGreatDoor.Hp Go.Proofs.YtdambnclbpipdaaGreatDoor.Fm Go.Proofs.YtdambnclbpipdaaGreatDoor.X Go.Proofs.YtdambnclbpipdaaGreatDoor.Va Go.Proofs.YtdambnclbpipdaaGreatDoor.Oa Go.Proofs.YtdambnclbpipdaaGreatDoor.Vp0 Go.Proofs.YtdambnclbpipdaaGreatDoor.Cn Go.Proofs.YtdambnclbpipdaaGreatDoor.Sga
abbrev kP := k202
abbrev TP : Nat := 202
abbrev SP := S202
abbrev SG := S154
def flushB (o : List Int) (x : Int) : Bool := !o.isEmpty && opn x
def tk (lim : Int) : List SP → List Int → Int → Int → List SG × List Int × Int × Int × Bool
  | [], o, a, e => ([], o, a, e, false)
  | p :: ps, o, a, e =>
    if flushB o p.f0 = true then
      if lim < ((decU p.f0).length : Int) then ([⟨txt o, a, e⟩], [], p.f1, p.f1 + p.f2, true)
      else (⟨txt o, a, e⟩ :: (tk lim ps (decU p.f0) p.f1 (p.f1 + p.f2)).1, (tk lim ps (decU p.f0) p.f1 (p.f1 + p.f2)).2)
    else
      if lim < ((o ++ decU p.f0).length : Int) then ([], [], a, p.f1 + p.f2, true)
      else tk lim ps (o ++ decU p.f0) a (p.f1 + p.f2)
theorem OpensR (w : World) (hG : G w) (x : Int) (hx : I32 x) : Calls Tryz.prog 146 #[.int .i32 x] w fun e w' => e = .returned (.bool (opn x)) ∧ Below w.heap.size w w' :=
  ucd_Opens.calls x (opn x) w (by unfold ucd_Opens.f; exact if_pos hx) hG
theorem DecG (w : World) (hG : G w) (x : Int) (hx : I32 x) : Calls Tryz.prog 147 #[.int .i32 x] w fun e w' => ∃ v, e = .returned v ∧ K3.R T3 w' w.heap.size (fun _ => True) v (decU x) ∧ Below w.heap.size w w' :=
  ucd_Decompose.calls x (decU x) w (by unfold ucd_Decompose.f; exact if_pos hx) hG
theorem pt_at {w : World} {A : Option Addr} {n : Nat} {l : List SP} (h : Kd.C kP w A n l) (j : Nat) (hj : j < n) (hjl : j < l.length) :
    ∃ ad, A = some ad ∧ w.cell? (ad.add (j * 3)) = some (.int .i32 l[j].f0) ∧ w.cell? ⟨(ad.add (j * 3)).block, (ad.add (j * 3)).off + 1, none⟩ = some (.int .i64 l[j].f1) ∧ w.cell? ⟨(ad.add (j * 3)).block, (ad.add (j * 3)).off + 2, none⟩ = some (.int .i64 l[j].f2) := by
  have := at_T202 h (j : Int) (by omega) (by omega)
  have e : rd_T202 l (j : Int) = l[j] := by unfold rd_T202; simp [List.getD_eq_getElem?_getD, List.getElem?_eq_getElem hjl]
  rw [Int.toNat_natCast, e] at this
  exact this
def fine (p : SP) : Prop := I32 p.f0 ∧ 0 ≤ p.f1 ∧ p.f1 ≤ 4000000000000000 ∧ 0 ≤ p.f2 ∧ p.f2 ≤ 4000000000000000
def errOf (b : Bool) : Int := if b = true then 6 else 0
def Ts (w0 : World) (g gd : Nat) (lim : Int) (cl : Bool) (A : Option Addr) (n c : Nat) (ps : List SP) (M : List Th) (o : List Int) (a e : Int) (er : Int) (out : List SG) (outv : Value) (w : World) : Prop :=
  ∃ ov, Sep w0 (blkT g (segCells gd lim ov a e cl er) TS :: rowT K3 T3 w0.heap.size ov o :: rowT kP TP w0.heap.size (.slice A n c) ps :: (M ++ [rowT kG TG w0.heap.size outv out])) w
def catT (out : List SG) (r : List SG × List Int × Int × Int × Bool) : List SG × List Int × Int × Int × Bool := (out ++ r.1, r.2)
theorem tk_step (lim : Int) (p : SP) (ps : List SP) (o : List Int) (a e : Int) (out : List SG) (o1 : List Int) (a1 : Int) (out1 : List SG)
    (h : (o1, a1, out1) = if flushB o p.f0 = true then ([], p.f1, out ++ [⟨txt o, a, e⟩]) else (o, a, out)) :
    catT out (tk lim (p :: ps) o a e) = if lim < ((o1 ++ decU p.f0).length : Int) then (out1, [], a1, p.f1 + p.f2, true) else catT out1 (tk lim ps (o1 ++ decU p.f0) a1 (p.f1 + p.f2)) := by
  rw [tk]
  by_cases hf : flushB o p.f0 = true
  · rw [if_pos hf] at h ⊢
    obtain ⟨rfl, h2⟩ := Prod.mk.inj h
    obtain ⟨rfl, rfl⟩ := Prod.mk.inj h2
    rw [List.nil_append]
    split
    · rfl
    · simp [catT]
  · rw [if_neg hf] at h ⊢
    obtain ⟨rfl, h2⟩ := Prod.mk.inj h
    obtain ⟨rfl, rfl⟩ := Prod.mk.inj h2
    split
    · simp [catT]
    · rfl
def Ls (w0 : World) (g gd : Nat) (lim : Int) (cl : Bool) (ad : Addr) (n c : Nat) (ps : List SP) (M : List Th) (o : List Int) (a e : Int) (er : Int) (out : List SG) (outv ov : Value) (pb : Nat) (p : SP) (w : World) : Prop :=
  Sep w0 (blkT g (segCells gd lim ov a e cl er) TS :: rowT K3 T3 w0.heap.size ov o :: rowT kP TP w0.heap.size (.slice (some ad) n c) ps :: (M ++ rowT kG TG w0.heap.size outv out :: [blkT pb #[.int .i32 p.f0, .int .i64 p.f1, .int .i64 p.f2] TP])) w
def TakePost (w0 : World) (g gd : Nat) (lim : Int) (cl : Bool) (A : Option Addr) (n c : Nat) (ps : List SP) (M : List Th) (r : List SG × List Int × Int × Int × Bool) (E : Ending) (w' : World) : Prop :=
  ∃ outv, E = .returned (.tuple #[outv, .int .i64 (errOf r.2.2.2.2)]) ∧ Ts w0 g gd lim cl A n c ps M r.2.1 r.2.2.1 r.2.2.2.1 (errOf r.2.2.2.2) r.1 outv w'
set_option maxRecDepth 100000 in
set_option maxHeartbeats 8000000 in
theorem TakeS (w0 : World) (hG : G w0) (w : World) (g gd : Nat) (lim : Int) (cl : Bool) (A : Option Addr) (n c : Nat) (ps : List SP) (M : List Th) (o : List Int) (a e : Int) (ov : Value)
    (h : Sep w0 (blkT g (segCells gd lim ov a e cl 0) TS :: rowT K3 T3 w0.heap.size ov o :: rowT kP TP w0.heap.size (.slice A n c) ps :: M) w)
    (hps : ∀ p ∈ ps, fine p) (hl : n ≤ 100000000) (hlim : lim ≤ 50000000) (ho : (o.length : Int) ≤ lim) (ho32 : ∀ x ∈ o, I32 x) :
    Calls Tryz.prog 107 #[.pointer (some ⟨g, 0, none⟩), .slice A n c] w (TakePost w0 g gd lim cl A n c ps M (tk lim ps o a e)) := by
  have hnl := (h.rows 2 rfl).1
  have S0 := Aside0.mk (show Ts w0 g gd lim cl A n c ps M o a e 0 [] (.slice none 0 0) w from ⟨ov, h.empty kG TG w0.heap.size⟩)
  obtain ⟨R, hR⟩ : ∃ R, R = tk lim ps o a e := ⟨_, rfl⟩
  rw [← hR]
  have HR := Aside0.mk hR
  have HN := Aside0.mk hnl
  have HG := Aside0.mk hG
  have HPS := Aside0.mk hps
  have HO32 := Aside0.mk ho32
  clear h hnl hG hps hR ho32
  go_enter Tryz.func107, Tryz.ntmps107
  go_wp2
  go_loopw [6, 11] (fun v6 v11 wr => ∃ (i : Nat) (o : List Int) (a e : Int) (out : List SG), v11 = .int .i64 i ∧ i ≤ n ∧ out.length ≤ i ∧ (o.length : Int) ≤ lim ∧ Aside0 (∀ x ∈ o, I32 x) ∧ Aside0 (R = catT out (tk lim (ps.drop i) o a e)) ∧ Aside0 (Ts w0 g gd lim cl A n c ps M o a e 0 out v6 wr)) (fun _ v11 _ => n - (intOf v11).toNat)
  case atStart => exact ⟨0, o, a, e, [], rfl, Nat.zero_le _, Nat.zero_le _, ho, HO32, ⟨HR.out⟩, S0⟩
  case round =>
    clear S0 HR HO32 ho
    obtain ⟨i, o, a, e, out, rfl, hi, hout, ho, HO32, HR, HS⟩ := hrel
    by_cases hlt : i < n
    · have hd : decide ((i : Int) < (n : Int)) = true := decide_eq_true (by omega)
      have hd2 : decide (i < n) = true := decide_eq_true hlt
      have hil : i < ps.length := by have := HN.out; omega
      obtain ⟨ov, hS⟩ := HS.out
      obtain ⟨ad, rfl, z0, z1, z2⟩ := pt_at (hS.rows 2 rfl).2.2 i hlt hil
      have hfp := HPS.out _ (List.getElem_mem hil)
      have hdr := List.drop_eq_getElem_cons hil
      have hr := HR.out
      rw [hdr] at hr
      obtain ⟨p, hp⟩ : ∃ p, p = ps[i] := ⟨_, rfl⟩
      rw [← hp] at z0 z1 z2 hfp hr
      obtain ⟨ov, hov⟩ : ∃ v, v = ov := ⟨_, rfl⟩
      rw [← hov] at hS
      have S1 := Aside0.mk hS
      have HR1 := Aside0.mk hr
      have HFP := Aside0.mk hfp
      have hn0 : (0 : Int) ≤ (i : Int) := by omega
      have hn1 : (i : Int) < (n : Int) := by omega
      clear hS hfp hdr hr hp hov HR HS
      go_upto_region 5 with (fail)
      have S2 := Aside0.mk (show Ls w0 g gd lim cl ad n c ps M o a e 0 out u6 ov wr.heap.size p (wr.alloc (.cells #[.int .i32 p.f0, .int .i64 p.f1, .int .i64 p.f2] TP)) from by
        have h := S1.out.blk_new #[.int .i32 p.f0, .int .i64 p.f1, .int .i64 p.f2] TP
        simp only [List.cons_append, List.append_assoc] at h
        exact h)
      obtain ⟨pb, hpb⟩ : ∃ pb, pb = wr.heap.size := ⟨_, rfl⟩
      rw [← hpb] at S2 ⊢
      generalize (wr.alloc (.cells #[.int .i32 p.f0, .int .i64 p.f1, .int .i64 p.f2] TP)) = w2 at S2 ⊢
      clear S1 z0 z1 z2 hpb
      obtain ⟨fl, hfl⟩ : ∃ fl, fl = flushB o p.f0 := ⟨_, rfl⟩
      have HFL := Aside0.mk hfl
      clear hfl
      go_cut [25] (fun v25 wc => v25 = .bool fl ∧ Aside0 (Ls w0 g gd lim cl ad n c ps M o a e 0 out u6 ov pb p wc))
      case first =>
        obtain ⟨Ao, co, rfl, hco, hCo⟩ := S2.out.reads 1 rfl
        obtain ⟨m, hm⟩ : ∃ m, m = o.length := ⟨_, rfl⟩
        have SO := S2
        rw [← hm] at S2 hco hCo
        have hcell := blk_cell (S2.out.blk 0 rfl).1 2
        have hp0 := blk_cell (S2.out.blk (M.length + 4) (at4 _ _ _ _ _ _ _)).1 0
        simp only [segCells] at hcell
        have HM := Aside0.mk hm
        have HCo := Aside0.mk (And.intro hco hCo)
        clear hco hCo hm S2
        rcases Nat.eq_zero_or_pos m with h0 | h0
        · subst h0
          have hf : fl = false := by rw [HFL.out, List.eq_nil_of_length_eq_zero HM.out.symm]; rfl
          have hd3 : decide ((0 : Int) > 0) = false := rfl
          subst hf
          go_wp2
          go_meet
          case rel => exact ⟨rfl, SO⟩
        · have hd3 : decide (0 < m) = true := decide_eq_true h0
          have hne : o.isEmpty = false := by
            cases o with
            | nil => exact absurd HM.out (by simp; omega)
            | cons x t => rfl
          have hf : fl = opn p.f0 := by rw [HFL.out]; unfold flushB; rw [hne]; rfl
          have HOP := Aside0.mk (OpensR w2 (HG.out.below SO.out.below) p.f0 HFP.out.1)
          rw [← hf] at HOP
          clear hne hf
          cases fl with
          | true =>
            go_wp2_with (first | (go_at_call 146; go_must (refine HOP.out.mono ?_; rintro e w3 ⟨rfl, p1⟩; have S3 := Aside0.mk (SO.out.later p1); clear p1)))
            go_meet
            case rel => exact ⟨rfl, S3⟩
          | false =>
            go_wp2_with (first | (go_at_call 146; go_must (refine HOP.out.mono ?_; rintro e w3 ⟨rfl, p1⟩; have S3 := Aside0.mk (SO.out.later p1); clear p1)))
            go_meet
            case rel => exact ⟨rfl, S3⟩
      case rest =>
        clear S2
        obtain ⟨rfl, S2⟩ := hcut
        go_upto_if 25 with (fail)
        go_cut [6] (fun v6 wc => ∃ (o1 : List Int) (a1 : Int) (out1 : List SG) (ov1 : Value), out1.length ≤ i + 1 ∧ Aside0 ((o1, a1, out1) = if fl = true then ([], p.f1, out ++ [⟨txt o, a, e⟩]) else (o, a, out)) ∧ Aside0 (Ls w0 g gd lim cl ad n c ps M o1 a1 e 0 out1 v6 ov1 pb p wc))
        case first =>
          cases fl with
          | false =>
            go_wp2
            go_meet
            case rel => exact ⟨o, a, out, ov, by omega, ⟨rfl⟩, S2⟩
          | true =>
            obtain ⟨Ao, co, rfl, hco, hCo⟩ := S2.out.reads 1 rfl
            have HW := Aside0.mk (WholeP wc (HG.out.below S2.out.below) g gd lim a e 0 cl Ao o.length co o (S2.out.blk 0 rfl).1 hCo rfl hco HO32.out (by omega))
            clear hCo hco
            go_upto_region 7 with (first | (go_at_call 110; go_must (refine HW.out.mono ?_; rintro E w3 ⟨rfl, p1⟩; have S3 := Aside0.mk (S2.out.later p1); clear p1; obtain ⟨ok1, hR1, hf1, hN1⟩ := Sep.row (d := kG) (e := TG) (base := w0.heap.size) (v := u6) (xs := out) S3.out (M.length + 3) (at3 _ _ _ _ _ _); have HR1 := Aside0.mk hR1; have HF1 := Aside0.mk hf1; have HN1 := Aside0.mk hN1; have HB3 := Aside0.mk S3.out.below; clear hR1 hf1 hN1)) | (at_builtin; go_must (refine Kd.R_append kG (w0 := w0) w0.heap.size rfl (.tmp 26) (.tmp 29) 137 TG (.agg #[.string ⟨#[]⟩, .int .i64 0, .int .i64 0]) 32 rfl Tryz.underlying137 info154 rfl (by decide) (by decide) u6 out (⟨txt o, a, e⟩ : SG) [.string (txt o), .int .i64 a, .int .i64 e] ok1 (fun _ => False) rfl rfl ?aP (fun _ hk => hk.elim) ?aF ?aO ?aB ?aS ?aL ?_; (case aP => exact k154_mkM _ _ _ ⟨txt o, a, e⟩); (case aB => exact HB3.out); (case aF => exact HF1.out); (case aO => exact HR1.out); (case aS => exact HB3.out.size); (case aL => omega); intro v6 w4 ho hb hg hat; have S4 := Aside0.mk (show Ls w0 g gd lim cl ad n c ps M o a e 0 (out ++ [⟨txt o, a, e⟩]) v6 (.slice Ao o.length co) pb p w4 from (by have h := HN1.out v6 w4 _ ho hg; rw [set3] at h; exact h)); clear ho hb hg hat HR1 HF1 HN1 S3)))
            clear HW HB3
            have HPB := Aside0.mk (S4.out.blk (M.length + 4) (at4 _ _ _ _ _ _ _)).1
            have HGB := Aside0.mk (S4.out.blk 0 rfl).1
            refine wp_region_held_drew (S := fun W => W.heap[pb]? = some (.cells #[.int .i32 p.f0, .int .i64 p.f1, .int .i64 p.f2] TP (0, 0))) (by kernel_rfl) HPB.out (fun hS => ?_)
            refine wpAnyH_take (i := 0) (oi := { dst := some 31, op := _, type := _, pos := _, after := _, guard := _ }) (v := .pointer (some ⟨g, 0, none⟩)) rfl (by kernel_rfl) (by kernel_rfl) (by kernel_rfl) (fun _ _ _ h => h) (Or.inl ⟨by rfl, fun W hW => ?_⟩) hS ?_
            · (go_simp)
            try simp only [Act.put, List.setIfInBounds_toArray, List.set_cons_zero, List.set_cons_succ]
            refine wpAnyH_take (i := 1) (oi := { dst := some 32, op := _, type := _, pos := _, after := _, guard := _ }) (v := .pointer (some ⟨g, 0, none⟩)) rfl (by kernel_rfl) (by kernel_rfl) (by kernel_rfl) (fun _ _ _ h => h) (Or.inl ⟨by rfl, fun W hW => ?_⟩) hS ?_
            · (go_simp)
            try simp only [Act.put, List.setIfInBounds_toArray, List.set_cons_zero, List.set_cons_succ]
            refine wpAnyH_take (i := 2) (oi := { dst := some 33, op := _, type := _, pos := _, after := _, guard := _ }) (v := .pointer (some ⟨pb, 1, none⟩)) rfl (by kernel_rfl) (by kernel_rfl) (by kernel_rfl) (fun _ _ _ h => h) (Or.inl ⟨by rfl, fun W hW => ?_⟩) hS ?_
            · (go_simp)
            try simp only [Act.put, List.setIfInBounds_toArray, List.set_cons_zero, List.set_cons_succ]
            refine wpAnyH_take (i := 3) (oi := { dst := some 34, op := _, type := _, pos := _, after := _, guard := _ }) (v := .int .i64 p.f1) rfl (by kernel_rfl) (by kernel_rfl) (by kernel_rfl) (fun _ _ _ h => h) (Or.inl ⟨by rfl, fun W hW => ?_⟩) hS ?_
            · (have hcell := blk_cell hW 1; go_simp)
            try simp only [Act.put, List.setIfInBounds_toArray, List.set_cons_zero, List.set_cons_succ]
            refine wpAnyH_take (i := 4) (oi := { dst := some 35, op := _, type := _, pos := _, after := _, guard := _ }) (v := .pointer (some ⟨g, 0, none⟩)) rfl (by kernel_rfl) (by kernel_rfl) (by kernel_rfl) (fun _ _ _ h => h) (Or.inl ⟨by rfl, fun W hW => ?_⟩) hS ?_
            · (go_simp)
            try simp only [Act.put, List.setIfInBounds_toArray, List.set_cons_zero, List.set_cons_succ]
            refine wpAnyH_take (i := 5) (oi := { dst := some 36, op := _, type := _, pos := _, after := _, guard := _ }) (v := .pointer (some ⟨g, 2, none⟩)) rfl (by kernel_rfl) (by kernel_rfl) (by kernel_rfl) (fun _ _ _ h => h) (Or.inl ⟨by rfl, fun W hW => ?_⟩) hS ?_
            · (go_simp)
            try simp only [Act.put, List.setIfInBounds_toArray, List.set_cons_zero, List.set_cons_succ]
            have c2 := blk_cell HGB.out 2
            have f2 := blk_frozen HGB.out 2
            simp only [segCells] at c2
            have S5 := Aside0.mk (show Ls w0 g gd lim cl ad n c ps M [] a e 0 (out ++ [⟨txt o, a, e⟩]) v6 (.slice none 0 0) pb p (w4.setCell ⟨g, 2, none⟩ (.slice none 0 0)) from (S4.out.blk_set 0 rfl 2 (.slice none 0 0) rfl).let_go K3 T3 w0.heap.size 1 rfl)
            have HPB5 := Aside0.mk (S5.out.blk (M.length + 4) (at4 _ _ _ _ _ _ _)).1
            refine wpAnyH_ready (rs := [6]) (by kernel_rfl) (by simp) ?_
            refine AllReadyH.cons (o := { dst := none, op := _, type := _, pos := _, after := _, guard := _ }) rfl (fun K hK => ?_) AllReadyH.nil
            go_simp
            refine hK.out _ _ HPB5.out (fun hS2 => ?_)
            clear hK K hS
            have hS := hS2
            clear hS2
            try simp only [Act.put, List.setIfInBounds_toArray, List.set_cons_zero, List.set_cons_succ]
            refine wpAnyH_take (i := 7) (oi := { dst := some 37, op := _, type := _, pos := _, after := _, guard := _ }) (v := .pointer (some ⟨g, 0, none⟩)) rfl (by kernel_rfl) (by kernel_rfl) (by kernel_rfl) (fun _ _ _ h => h) (Or.inl ⟨by rfl, fun W hW => ?_⟩) hS ?_
            · (go_simp)
            try simp only [Act.put, List.setIfInBounds_toArray, List.set_cons_zero, List.set_cons_succ]
            refine wpAnyH_take (i := 8) (oi := { dst := some 38, op := _, type := _, pos := _, after := _, guard := _ }) (v := .pointer (some ⟨g, 3, none⟩)) rfl (by kernel_rfl) (by kernel_rfl) (by kernel_rfl) (fun _ _ _ h => h) (Or.inl ⟨by rfl, fun W hW => ?_⟩) hS ?_
            · (go_simp)
            try simp only [Act.put, List.setIfInBounds_toArray, List.set_cons_zero, List.set_cons_succ]
            have c3 := blk_cell (S5.out.blk 0 rfl).1 3
            have f3 := blk_frozen (S5.out.blk 0 rfl).1 3
            simp only [segCells] at c3
            have S6 := Aside0.mk (show Ls w0 g gd lim cl ad n c ps M [] p.f1 e 0 (out ++ [⟨txt o, a, e⟩]) v6 (.slice none 0 0) pb p ((w4.setCell ⟨g, 2, none⟩ (.slice none 0 0)).setCell ⟨g, 3, none⟩ (.int .i64 p.f1)) from S5.out.blk_set 0 rfl 3 (.int .i64 p.f1) rfl)
            have HPB6 := Aside0.mk (S6.out.blk (M.length + 4) (at4 _ _ _ _ _ _ _)).1
            have S7 := Aside0.mk (show Ls w0 g gd lim cl ad n c ps M [] p.f1 e 0 (out ++ [⟨txt o, a, e⟩]) v6 (.slice none 0 0) pb p (((w4.setCell ⟨g, 2, none⟩ (.slice none 0 0)).setCell ⟨g, 3, none⟩ (.int .i64 p.f1)).drew) from S6.out.later ((Drawn0.refl _).step 1).below)
            clear c2 f2
            refine wpAnyH_ready (rs := [9]) (by kernel_rfl) (by simp) ?_
            refine AllReadyH.cons (o := { dst := none, op := _, type := _, pos := _, after := _, guard := _ }) rfl (fun K hK => ?_) AllReadyH.nil
            go_simp
            refine hK.out _ _ HPB6.out (fun hS2 => ?_)
            clear hK K hS hS2 c3 f3
            refine wpAnyH_done (by kernel_rfl) ?_ _
            go_wp2
            go_meet
            case rel => exact ⟨[], p.f1, out ++ [⟨txt o, a, e⟩], .slice none 0 0, by simp; omega, ⟨rfl⟩, S7⟩
        case rest =>
          obtain ⟨o1, a1, out1, ov1, hout1, HST, S3⟩ := hcut
          clear S2
          have hst := tk_step lim p (ps.drop (i + 1)) o a e out o1 a1 out1 (by rw [← HFL.out]; exact HST.out)
          rw [← HR1.out] at hst
          have hdl := Oa.dec_len3 p.f0 HFP.out.1
          have ho1 : (o1.length : Int) ≤ lim ∧ ∀ x ∈ o1, I32 x := by
            have h := HST.out
            cases fl with
            | true => simp only [if_true, Prod.mk.injEq] at h; rw [h.1]; exact ⟨by simp; omega, fun x hx => absurd hx (by simp)⟩
            | false => simp only [Bool.false_eq_true, if_false, Prod.mk.injEq] at h; rw [h.1]; exact ⟨ho, HO32.out⟩
          have HO1 := Aside0.mk ho1.2
          have ho1l := ho1.1
          have hdb := Oa.dec_bot p.f0 HFP.out.1
          obtain ⟨D, hD⟩ : ∃ D, D = decU p.f0 := ⟨_, rfl⟩
          rw [← hD] at hst hdl hdb
          have HDD := Aside0.mk hD
          have HST2 := Aside0.mk hst
          have HDB := Aside0.mk (show ∀ x ∈ D, I32 x from fun x hx => (hdb x hx).2)
          obtain ⟨Ao, co, rfl, hco, -⟩ := S3.out.reads 1 rfl
          obtain ⟨m, hm⟩ : ∃ m, m = o1.length := ⟨_, rfl⟩
          have HM := Aside0.mk hm
          have hml : (m : Int) ≤ lim := by omega
          rw [← hm] at S3
          have hDl : D.length ≤ 3 := hdl
          obtain ⟨-, hp1, hp2, hp3, hp4⟩ := HFP.out
          clear hst ho1 hdb hD hm HST HR1 ho ho1l hout hdl
          obtain ⟨o2, ho2⟩ : ∃ o2, o2 = o1 ++ D := ⟨_, rfl⟩
          have HO2 := Aside0.mk ho2
          clear ho2
          go_upto_region 8 with (fail)
          go_cut [] (fun wd => ∃ ov2 : Value, Aside0 (Ls w0 g gd lim cl ad n c ps M o2 a1 e 0 out1 u6 ov2 pb p wd))
          case first =>
            have HPB := Aside0.mk (S3.out.blk (M.length + 4) (at4 _ _ _ _ _ _ _)).1
            refine wp_region_held_drew (S := fun W => W.heap[pb]? = some (.cells #[.int .i32 p.f0, .int .i64 p.f1, .int .i64 p.f2] TP (0, 0))) (by kernel_rfl) HPB.out (fun hS => ?_)
            have S4 := Aside0.mk (S3.out.later ((Drawn0.refl wc).step 1).below)
            refine wpAnyH_take (i := 0) (oi := { dst := some 39, op := _, type := _, pos := _, after := _, guard := _ }) (v := .pointer (some ⟨g, 0, none⟩)) rfl (by kernel_rfl) (by kernel_rfl) (by kernel_rfl) (fun _ _ _ h => h) (Or.inl ⟨by rfl, fun W hW => ?_⟩) hS ?_
            · (go_simp)
            try simp only [Act.put, List.setIfInBounds_toArray, List.set_cons_zero, List.set_cons_succ]
            refine wpAnyH_take (i := 1) (oi := { dst := some 40, op := _, type := _, pos := _, after := _, guard := _ }) (v := .pointer (some ⟨g, 0, none⟩)) rfl (by kernel_rfl) (by kernel_rfl) (by kernel_rfl) (fun _ _ _ h => h) (Or.inl ⟨by rfl, fun W hW => ?_⟩) hS ?_
            · (go_simp)
            try simp only [Act.put, List.setIfInBounds_toArray, List.set_cons_zero, List.set_cons_succ]
            refine wpAnyH_take (i := 2) (oi := { dst := some 41, op := _, type := _, pos := _, after := _, guard := _ }) (v := .pointer (some ⟨g, 0, none⟩)) rfl (by kernel_rfl) (by kernel_rfl) (by kernel_rfl) (fun _ _ _ h => h) (Or.inl ⟨by rfl, fun W hW => ?_⟩) hS ?_
            · (go_simp)
            try simp only [Act.put, List.setIfInBounds_toArray, List.set_cons_zero, List.set_cons_succ]
            refine wpAnyH_take (i := 3) (oi := { dst := some 42, op := _, type := _, pos := _, after := _, guard := _ }) (v := .pointer (some ⟨g, 2, none⟩)) rfl (by kernel_rfl) (by kernel_rfl) (by kernel_rfl) (fun _ _ _ h => h) (Or.inl ⟨by rfl, fun W hW => ?_⟩) hS ?_
            · (go_simp)
            try simp only [Act.put, List.setIfInBounds_toArray, List.set_cons_zero, List.set_cons_succ]
            refine wpAnyH_take (i := 5) (oi := { dst := some 44, op := _, type := _, pos := _, after := _, guard := _ }) (v := .pointer (some ⟨pb, 0, none⟩)) rfl (by kernel_rfl) (by kernel_rfl) (by kernel_rfl) (fun _ _ _ h => h) (Or.inl ⟨by rfl, fun W hW => ?_⟩) hS ?_
            · (go_simp)
            try simp only [Act.put, List.setIfInBounds_toArray, List.set_cons_zero, List.set_cons_succ]
            refine wpAnyH_take (i := 6) (oi := { dst := some 45, op := _, type := _, pos := _, after := _, guard := _ }) (v := .int .i32 p.f0) rfl (by kernel_rfl) (by kernel_rfl) (by kernel_rfl) (fun _ _ _ h => h) (Or.inl ⟨by rfl, fun W hW => ?_⟩) hS ?_
            · (have hcell := blk_cell hW 0; go_simp)
            try simp only [Act.put, List.setIfInBounds_toArray, List.set_cons_zero, List.set_cons_succ]
            refine wpAnyH_ready (rs := [4, 7]) (by kernel_rfl) (by simp) ?_
            refine AllReadyH.cons (o := { dst := some 43, op := _, type := _, pos := _, after := _, guard := _ }) rfl (fun K hK => ?_) (AllReadyH.cons (o := { dst := some 46, op := _, type := _, pos := _, after := _, guard := _ }) rfl (fun K hK => ?_) AllReadyH.nil)
            · have c2 := blk_cell (S3.out.blk 0 rfl).1 2
              simp only [segCells] at c2
              go_simp
              refine hK.out _ _ hS (fun hS2 => ?_)
              clear hK K hS2 c2
              try simp only [Act.put, List.setIfInBounds_toArray, List.set_cons_zero, List.set_cons_succ]
              refine wpAnyH_ready (rs := [7]) (by kernel_rfl) (by simp) ?_
              refine AllReadyH.cons (o := { dst := some 46, op := _, type := _, pos := _, after := _, guard := _ }) rfl (fun K hK => ?_) AllReadyH.nil
              go_simp
              (go_at_call 147)
              refine (DecG _ (HG.out.below S4.out.below) p.f0 HFP.out.1).mono ?_
              rintro E w4 ⟨v4, rfl, q1, q2⟩
              rw [← HDD.out] at q1
              have S5 := Aside0.mk (show Sep w0 (blkT g (segCells gd lim (.slice Ao m co) a1 e cl 0) TS :: rowT K3 T3 w0.heap.size (.slice Ao m co) o1 :: rowT kP TP w0.heap.size (.slice (some ad) n c) ps :: (M ++ rowT kG TG w0.heap.size u6 out1 :: blkT pb #[.int .i32 p.f0, .int .i64 p.f1, .int .i64 p.f2] TP :: [rowT K3 T3 w0.heap.size v4 D])) w4 from by
                have h := S4.out.newR q1 q2
                simp only [List.cons_append, List.append_assoc, List.nil_append] at h
                exact h)
              obtain ⟨A4, c4, rfl⟩ := Kd.R_slice q1
              have HPB4 := Aside0.mk (S5.out.blk (M.length + 4) (at4 _ _ _ _ _ _ _)).1
              clear q1 q2 S4
              go_wp2_with fail
              refine hK.out _ _ HPB4.out (fun hS2 => ?_)
              clear hK K hS
              have hS := hS2
              clear hS2
              try simp only [Act.put, List.setIfInBounds_toArray, List.set_cons_zero, List.set_cons_succ]
              refine wpAnyH_ready (rs := [8]) (by kernel_rfl) (by simp) ?_
              refine AllReadyH.cons (o := { dst := some 47, op := _, type := _, pos := _, after := _, guard := _ }) rfl (fun K hK => ?_) AllReadyH.nil
              obtain ⟨ok, hR, hf, hN⟩ := Sep.row (d := K3) (e := T3) (base := w0.heap.size) (v := .slice Ao m co) (xs := o1) S5.out 1 rfl
              have hC4 := (Sep.rows (d := K3) (e := T3) (base := w0.heap.size) (A := A4) (m := D.length) (c := c4) (xs := D) S5.out (M.length + 5) (at5 _ _ _ _ _ _ _ _)).2.2
              refine Kd.R_append_rows_step K3 (Rr := K3.K _) (w0 := w0) w0.heap.size (by rfl) (.tmp 43) (.tmp 46) 167 T3 (.int .i32 0) 4 rfl Tryz.underlying167 info21 rfl (by decide) (by decide) (.slice Ao m co) o1 D A4 D.length c4 ok (fun _ => False) rfl rfl hR hC4 (fun _ _ h => h) (fun _ h => h.elim) hf S5.out.below S5.out.below.size (by have := HM.out; omega) (fun v1 w5 ho hb hg hat => ?_)
              have hS6 := hN v1 w5 _ ho hg
              rw [← HO2.out] at hS6
              have S6 := Aside0.mk hS6
              obtain ⟨A6, c6, rfl, hc6, -⟩ := S6.out.reads 1 rfl
              obtain ⟨q6, hq6⟩ : ∃ q6, q6 = o2.length := ⟨_, rfl⟩
              rw [← hq6] at S6 ⊢
              have HPB5 := Aside0.mk (Sep.blk (g := pb) (cells := #[.int .i32 p.f0, .int .i64 p.f1, .int .i64 p.f2]) (t := TP) S6.out (M.length + 4) (at4 _ _ _ _ _ _ _)).1
              clear hR hf hN ho hb hg hat hC4 S5 HPB4 hS6 hq6 hc6
              refine hK.out _ _ HPB5.out (fun hS2 => ?_)
              clear hK K hS
              have hS := hS2
              clear hS2
              try simp only [Act.put, List.setIfInBounds_toArray, List.set_cons_zero, List.set_cons_succ]
              refine wpAnyH_take (i := 9) (oi := { dst := some 48, op := _, type := _, pos := _, after := _, guard := _ }) (v := .pointer (some ⟨g, 0, none⟩)) rfl (by kernel_rfl) (by kernel_rfl) (by kernel_rfl) (fun _ _ _ h => h) (Or.inl ⟨by rfl, fun W hW => ?_⟩) hS ?_
              · (go_simp)
              try simp only [Act.put, List.setIfInBounds_toArray, List.set_cons_zero, List.set_cons_succ]
              refine wpAnyH_take (i := 10) (oi := { dst := some 49, op := _, type := _, pos := _, after := _, guard := _ }) (v := .pointer (some ⟨g, 2, none⟩)) rfl (by kernel_rfl) (by kernel_rfl) (by kernel_rfl) (fun _ _ _ h => h) (Or.inl ⟨by rfl, fun W hW => ?_⟩) hS ?_
              · (go_simp)
              try simp only [Act.put, List.setIfInBounds_toArray, List.set_cons_zero, List.set_cons_succ]
              have c2 := blk_cell (Sep.blk (g := g) (cells := segCells gd lim (.slice Ao m co) a1 e cl 0) (t := TS) S6.out 0 rfl).1 2
              have f2 := blk_frozen (Sep.blk (g := g) (cells := segCells gd lim (.slice Ao m co) a1 e cl 0) (t := TS) S6.out 0 rfl).1 2
              simp only [segCells] at c2
              have S7 := Aside0.mk (show Ls w0 g gd lim cl ad n c ps M o2 a1 e 0 out1 u6 (.slice A6 q6 c6) pb p (w5.setCell ⟨g, 2, none⟩ (.slice A6 q6 c6)) from by
                have h := (Sep.blk_set (g := g) (cells := segCells gd lim (.slice Ao m co) a1 e cl 0) (t := TS) (cells' := segCells gd lim (.slice A6 q6 c6) a1 e cl 0) S6.out 0 rfl 2 (.slice A6 q6 c6) rfl).head (M.length + 5)
                exact (congrArg (fun l => Sep w0 l _) (take5 _ _ _ M _ _ _)).mp h)
              have HPB6 := Aside0.mk (S7.out.blk (M.length + 4) (at4 _ _ _ _ _ _ _)).1
              refine wpAnyH_ready (rs := [11]) (by kernel_rfl) (by simp) ?_
              refine AllReadyH.cons (o := { dst := none, op := _, type := _, pos := _, after := _, guard := _ }) rfl (fun K hK => ?_) AllReadyH.nil
              go_simp
              refine hK.out _ _ HPB6.out (fun hS2 => ?_)
              clear hK K hS hS2 c2 f2
              refine wpAnyH_done (by kernel_rfl) ?_ _
              go_wp2
              go_meet
              case rel => exact ⟨_, S7⟩
            · go_simp
              (go_at_call 147)
              refine (DecG _ (HG.out.below S4.out.below) p.f0 HFP.out.1).mono ?_
              rintro E w4 ⟨v4, rfl, q1, q2⟩
              rw [← HDD.out] at q1
              have S5 := Aside0.mk (show Sep w0 (blkT g (segCells gd lim (.slice Ao m co) a1 e cl 0) TS :: rowT K3 T3 w0.heap.size (.slice Ao m co) o1 :: rowT kP TP w0.heap.size (.slice (some ad) n c) ps :: (M ++ rowT kG TG w0.heap.size u6 out1 :: blkT pb #[.int .i32 p.f0, .int .i64 p.f1, .int .i64 p.f2] TP :: [rowT K3 T3 w0.heap.size v4 D])) w4 from by
                have h := S4.out.newR q1 q2
                simp only [List.cons_append, List.append_assoc, List.nil_append] at h
                exact h)
              obtain ⟨A4, c4, rfl⟩ := Kd.R_slice q1
              have HPB4 := Aside0.mk (S5.out.blk (M.length + 4) (at4 _ _ _ _ _ _ _)).1
              clear q1 q2 S4
              go_wp2_with fail
              refine hK.out _ _ HPB4.out (fun hS2 => ?_)
              clear hK K hS
              have hS := hS2
              clear hS2
              try simp only [Act.put, List.setIfInBounds_toArray, List.set_cons_zero, List.set_cons_succ]
              have c2 := blk_cell (Sep.blk (g := g) (cells := segCells gd lim (.slice Ao m co) a1 e cl 0) (t := TS) S5.out 0 rfl).1 2
              simp only [segCells] at c2
              refine wpAnyH_ready (rs := [4]) (by kernel_rfl) (by simp) ?_
              refine AllReadyH.cons (o := { dst := some 43, op := _, type := _, pos := _, after := _, guard := _ }) rfl (fun K hK => ?_) AllReadyH.nil
              go_simp
              refine hK.out _ _ hS (fun hS2 => ?_)
              clear hK K hS2 c2
              try simp only [Act.put, List.setIfInBounds_toArray, List.set_cons_zero, List.set_cons_succ]
              refine wpAnyH_ready (rs := [8]) (by kernel_rfl) (by simp) ?_
              refine AllReadyH.cons (o := { dst := some 47, op := _, type := _, pos := _, after := _, guard := _ }) rfl (fun K hK => ?_) AllReadyH.nil
              obtain ⟨ok, hR, hf, hN⟩ := Sep.row (d := K3) (e := T3) (base := w0.heap.size) (v := .slice Ao m co) (xs := o1) S5.out 1 rfl
              have hC4 := (Sep.rows (d := K3) (e := T3) (base := w0.heap.size) (A := A4) (m := D.length) (c := c4) (xs := D) S5.out (M.length + 5) (at5 _ _ _ _ _ _ _ _)).2.2
              refine Kd.R_append_rows_step K3 (Rr := K3.K _) (w0 := w0) w0.heap.size (by rfl) (.tmp 43) (.tmp 46) 167 T3 (.int .i32 0) 4 rfl Tryz.underlying167 info21 rfl (by decide) (by decide) (.slice Ao m co) o1 D A4 D.length c4 ok (fun _ => False) rfl rfl hR hC4 (fun _ _ h => h) (fun _ h => h.elim) hf S5.out.below S5.out.below.size (by have := HM.out; omega) (fun v1 w5 ho hb hg hat => ?_)
              have hS6 := hN v1 w5 _ ho hg
              rw [← HO2.out] at hS6
              have S6 := Aside0.mk hS6
              obtain ⟨A6, c6, rfl, hc6, -⟩ := S6.out.reads 1 rfl
              obtain ⟨q6, hq6⟩ : ∃ q6, q6 = o2.length := ⟨_, rfl⟩
              rw [← hq6] at S6 ⊢
              have HPB5 := Aside0.mk (Sep.blk (g := pb) (cells := #[.int .i32 p.f0, .int .i64 p.f1, .int .i64 p.f2]) (t := TP) S6.out (M.length + 4) (at4 _ _ _ _ _ _ _)).1
              clear hR hf hN ho hb hg hat hC4 S5 HPB4 hS6 hq6 hc6
              refine hK.out _ _ HPB5.out (fun hS2 => ?_)
              clear hK K hS
              have hS := hS2
              clear hS2
              try simp only [Act.put, List.setIfInBounds_toArray, List.set_cons_zero, List.set_cons_succ]
              refine wpAnyH_take (i := 9) (oi := { dst := some 48, op := _, type := _, pos := _, after := _, guard := _ }) (v := .pointer (some ⟨g, 0, none⟩)) rfl (by kernel_rfl) (by kernel_rfl) (by kernel_rfl) (fun _ _ _ h => h) (Or.inl ⟨by rfl, fun W hW => ?_⟩) hS ?_
              · (go_simp)
              try simp only [Act.put, List.setIfInBounds_toArray, List.set_cons_zero, List.set_cons_succ]
              refine wpAnyH_take (i := 10) (oi := { dst := some 49, op := _, type := _, pos := _, after := _, guard := _ }) (v := .pointer (some ⟨g, 2, none⟩)) rfl (by kernel_rfl) (by kernel_rfl) (by kernel_rfl) (fun _ _ _ h => h) (Or.inl ⟨by rfl, fun W hW => ?_⟩) hS ?_
              · (go_simp)
              try simp only [Act.put, List.setIfInBounds_toArray, List.set_cons_zero, List.set_cons_succ]
              have c2 := blk_cell (Sep.blk (g := g) (cells := segCells gd lim (.slice Ao m co) a1 e cl 0) (t := TS) S6.out 0 rfl).1 2
              have f2 := blk_frozen (Sep.blk (g := g) (cells := segCells gd lim (.slice Ao m co) a1 e cl 0) (t := TS) S6.out 0 rfl).1 2
              simp only [segCells] at c2
              have S7 := Aside0.mk (show Ls w0 g gd lim cl ad n c ps M o2 a1 e 0 out1 u6 (.slice A6 q6 c6) pb p (w5.setCell ⟨g, 2, none⟩ (.slice A6 q6 c6)) from by
                have h := (Sep.blk_set (g := g) (cells := segCells gd lim (.slice Ao m co) a1 e cl 0) (t := TS) (cells' := segCells gd lim (.slice A6 q6 c6) a1 e cl 0) S6.out 0 rfl 2 (.slice A6 q6 c6) rfl).head (M.length + 5)
                exact (congrArg (fun l => Sep w0 l _) (take5 _ _ _ M _ _ _)).mp h)
              have HPB6 := Aside0.mk (S7.out.blk (M.length + 4) (at4 _ _ _ _ _ _ _)).1
              refine wpAnyH_ready (rs := [11]) (by kernel_rfl) (by simp) ?_
              refine AllReadyH.cons (o := { dst := none, op := _, type := _, pos := _, after := _, guard := _ }) rfl (fun K hK => ?_) AllReadyH.nil
              go_simp
              refine hK.out _ _ HPB6.out (fun hS2 => ?_)
              clear hK K hS hS2 c2 f2
              refine wpAnyH_done (by kernel_rfl) ?_ _
              go_wp2
              go_meet
              case rel => exact ⟨_, S7⟩
          case rest =>
            clear S3
            obtain ⟨ov2, S4⟩ := hcut
            obtain ⟨A2, c2, rfl, -, -⟩ := S4.out.reads 1 rfl
            obtain ⟨q, hq⟩ : ∃ q, q = o2.length := ⟨_, rfl⟩
            have HQ := Aside0.mk hq
            rw [← hq] at S4
            clear hq
            have z1 := blk_cell (S4.out.blk (M.length + 4) (at4 _ _ _ _ _ _ _)).1 1
            have z2 := blk_cell (S4.out.blk (M.length + 4) (at4 _ _ _ _ _ _ _)).1 2
            have z4 := blk_cell (S4.out.blk 0 rfl).1 4
            have f4 := blk_frozen (S4.out.blk 0 rfl).1 4
            simp only [segCells] at z4
            go_upto_region 10 with (fail)
            have S5 := Aside0.mk (show Ls w0 g gd lim cl ad n c ps M o2 a1 (p.f1 + p.f2) 0 out1 u6 (.slice A2 q c2) pb p (wc.setCell ⟨g, 4, none⟩ (.int .i64 (p.f1 + p.f2))) from S4.out.blk_set 0 rfl 4 (.int .i64 (p.f1 + p.f2)) rfl)
            clear z1 z2 z4 f4 S4
            generalize (wc.setCell ⟨g, 4, none⟩ (.int .i64 (p.f1 + p.f2))) = w6 at S5 ⊢
            have c1 := blk_cell (S5.out.blk 0 rfl).1 1
            have c2' := blk_cell (S5.out.blk 0 rfl).1 2
            simp only [segCells] at c1 c2'
            by_cases hlm : lim < (q : Int)
            · have hd3 : decide (lim < (q : Int)) = true := decide_eq_true hlm
              go_quiet (fail)
              have S6 := Aside0.mk (S5.out.later ((Drawn0.refl w6).step nq).below)
              clear c1 c2' S5
              generalize w6.drewN nq = w7 at S6 ⊢
              have c6 := blk_cell (S6.out.blk 0 rfl).1 6
              have f6 := blk_frozen (S6.out.blk 0 rfl).1 6
              have c2' := blk_cell (S6.out.blk 0 rfl).1 2
              have f2' := blk_frozen (S6.out.blk 0 rfl).1 2
              simp only [segCells] at c6 c2'
              go_upto_region 12 with (fail)
              have S7 := Aside0.mk (show Ls w0 g gd lim cl ad n c ps M [] a1 (p.f1 + p.f2) 6 out1 u6 (.slice none 0 0) pb p ((w7.setCell ⟨g, 6, none⟩ (.int .i64 6)).setCell ⟨g, 2, none⟩ (.slice none 0 0)) from
                (Sep.blk_set (g := g) (cells := segCells gd lim (.slice A2 q c2) a1 (p.f1 + p.f2) cl 6) (t := TS) (cells' := segCells gd lim (.slice none 0 0) a1 (p.f1 + p.f2) cl 6) (S6.out.blk_set 0 rfl 6 (.int .i64 6) rfl) 0 rfl 2 (.slice none 0 0) rfl).let_go K3 T3 w0.heap.size 1 rfl)
              clear c6 f6 c2' f2' S6
              generalize ((w7.setCell ⟨g, 6, none⟩ (.int .i64 6)).setCell ⟨g, 2, none⟩ (.slice none 0 0)) = w8 at S7 ⊢
              have c6 := blk_cell (S7.out.blk 0 rfl).1 6
              simp only [segCells] at c6
              go_quiet (fail)
              have S8 := Aside0.mk (S7.out.later ((Drawn0.refl w8).step nq).below)
              have hfin : R = (out1, [], a1, p.f1 + p.f2, true) := by rw [HST2.out, if_pos (by rw [← HO2.out, ← HQ.out]; exact hlm)]
              have HF := Aside0.mk hfin
              clear hfin c6 S7
              go_wp2
              go_ret2
              rw [HF.out]
              have h := (congrArg (fun l => Sep w0 l _) (take4 _ _ _ M _ _)).mp (S8.out.head (M.length + 4))
              exact ⟨_, rfl, _, h⟩
            · have hd3 : decide (lim < (q : Int)) = false := decide_eq_false hlm
              go_quiet (fail)
              have S6 := Aside0.mk (S5.out.later ((Drawn0.refl w6).step nq).below)
              clear c1 c2' S5
              generalize w6.drewN nq = w7 at S6 ⊢
              have hfin : R = catT out1 (tk lim (ps.drop (i + 1)) o2 a1 (p.f1 + p.f2)) := by rw [HST2.out, if_neg (by rw [← HO2.out, ← HQ.out]; exact hlm), HO2.out]
              have HF := Aside0.mk hfin
              clear hfin
              go_wp2
              go_roundw
              case rel => exact ⟨i + 1, o2, a1, p.f1 + p.f2, out1, by go_num, by omega, hout1, by rw [← HQ.out]; omega, ⟨fun x hx => by rw [HO2.out] at hx; exact (List.mem_append.1 hx).elim (HO1.out x) (HDB.out x)⟩, HF, ⟨_, (congrArg (fun l => Sep w0 l _) (take4 _ _ _ M _ _)).mp (S6.out.head (M.length + 4))⟩⟩
              case measure => simp [intOf]; omega
    · have hd : decide ((i : Int) < (n : Int)) = false := decide_eq_false (by omega)
      have hd2 : decide (i < n) = false := decide_eq_false hlt
      have hfin : R = (out, o, a, e, false) := by
        have h := HR.out
        rw [List.drop_eq_nil_of_le (by have := HN.out; omega)] at h
        rw [h]
        simp [catT, tk]
      have HF := Aside0.mk hfin
      clear hfin HR
      go_wp2
      go_ret2
      rw [HF.out]
      exact ⟨_, rfl, HS.out⟩
end Go.Proofs.YtdambnclbpipdaaGreatDoor.Sgb
namespace Go.Proofs.YtdambnclbpipdaaGreatDoor.Sgc
set_option linter.unusedVariables false
set_option linter.unusedSimpArgs false
open Go.Proofs.YtdambnclbpipdaaGreatDoor.Vd (decU)
open Go.Proofs.YtdambnclbpipdaaGreatDoor.Ve (opn)
open Go.Proofs.YtdambnclbpipdaaGreatDoor.Fr (K3 T3)
open Go.Proofs.YtdambnclbpipdaaGreatDoor.Ux (Bytes one1 dc rest1 full dec)
open Go.Proofs.YtdambnclbpipdaaGreatDoor.Dc (decT)
open Go.RowKit Go.Proofs.YtdambnclbpipdaaGreatDoorW.PrintWords Go.Proofs.YtdambnclbpipdaaGreatDoor.Hp Go.Proofs.YtdambnclbpipdaaGreatDoor.Fm Go.Proofs.YtdambnclbpipdaaGreatDoor.X Go.Proofs.YtdambnclbpipdaaGreatDoor.Va Go.Proofs.YtdambnclbpipdaaGreatDoor.Oa Go.Proofs.YtdambnclbpipdaaGreatDoor.Vp0 Go.Proofs.YtdambnclbpipdaaGreatDoor.Cn Go.Proofs.YtdambnclbpipdaaGreatDoor.Sga Go.Proofs.YtdambnclbpipdaaGreatDoor.Sgb
section
variable {w : World} {g gd : Nat} {lim a e er : Int} {ov : Value} {cl : Bool}
def ans (cl : Bool) (er : Int) : Int := if er = 0 then (if cl = true then 8 else 0) else er
theorem EndR (hb : w.heap[g]? = some (.cells (segCells gd lim ov a e cl er) TS (0, 0))) : Calls Tryz.prog 106 #[.pointer (some ⟨g, 0, none⟩)] w fun E w' => E = .returned (.int .i64 (ans cl er)) ∧ w = w' := by
  have c5 := blk_cell hb 5
  have c6 := blk_cell hb 6
  simp only [segCells] at c5 c6
  clear hb
  by_cases h : er = 0
  · subst h
    cases cl with
    | true =>
      go_enter Tryz.func106, Tryz.ntmps106
      go_wp2
      go_ret
      exact ⟨rfl, rfl⟩
    | false =>
      go_enter Tryz.func106, Tryz.ntmps106
      go_wp2
      go_ret
      exact ⟨rfl, rfl⟩
  · have h1 : (er != 0) = true := bne_iff_ne.2 h
    have h2 : (er == 0) = false := beq_eq_false_iff_ne.2 h
    have HA := Aside0.mk (show ans cl er = er from if_neg h)
    clear h
    rw [HA.out]
    go_enter Tryz.func106, Tryz.ntmps106
    go_wp2
    go_ret
    exact ⟨rfl, rfl⟩
end
theorem dec_fine : ∀ (k : Nat) (b : List Int) (p : Int), Bytes b → 0 ≤ p → p + b.length ≤ 4000000000000000 → ∀ y ∈ (dec k b p).1, fine y
  | 0, b, p, _, _, _, y, hy => by simp [dec] at hy
  | k + 1, [], p, _, _, _, y, hy => by simp [dec] at hy
  | k + 1, c :: t, p, hb, h0, h1, y, hy => by
    have hc := hb c (List.mem_cons_self ..)
    have hw := Ux.one1_width c t
    rw [List.length_cons] at h1
    simp only [dec] at hy
    split at hy
    · simp at hy
    · rcases List.mem_cons.1 hy with rfl | hy
      · exact ⟨Ot.one1_32 c t hc, h0, by show p ≤ _; omega, by show 0 ≤ (one1 c t).2.1; omega, by show (one1 c t).2.1 ≤ _; omega⟩
      · refine dec_fine k _ _ (fun x hx => hb x (List.mem_of_mem_drop hx)) (by omega) ?_ y hy
        rw [List.length_drop, List.length_cons]
        omega
theorem rest_fine (b : List Int) (p : Int) (h0 : 0 ≤ p) (h1 : p + b.length ≤ 4000000000000000) : ∀ y ∈ rest1 b p, fine y := by
  intro y hy
  unfold rest1 at hy
  split at hy
  · simp at hy
  · rw [List.mem_singleton.1 hy]
    exact ⟨by show -2147483648 ≤ (65533 : Int) ∧ (65533 : Int) ≤ 2147483647; decide, h0, by show p ≤ _; omega, by show (0 : Int) ≤ b.length; omega, by show (b.length : Int) ≤ _; omega⟩
theorem rot3 (a b c x : Th) (M : List Th) : (a :: b :: c :: (M ++ [x])).Perm (a :: b :: x :: c :: M) :=
  .cons a (.cons b ((List.perm_append_comm (l₁ := c :: M) (l₂ := [x]))))
theorem unrot3 (a b c x : Th) (M : List Th) : (a :: b :: x :: c :: M).Perm (a :: b :: c :: (M ++ [x])) := (rot3 a b c x M).symm
def Seg (w0 : World) (g gd : Nat) (lim : Int) (kept : List Int) (dat : Int) (dcl : Bool) (o : List Int) (a e : Int) (cl : Bool) (er : Int) (M : List Th) (w : World) : Prop :=
  ∃ ov, Sep w0 (blkT g (segCells gd lim ov a e cl er) TS :: rowT K3 T3 w0.heap.size ov o :: decT gd w0.heap.size kept dat dcl :: M) w
def WritePost (w0 : World) (g gd : Nat) (lim : Int) (kept : List Int) (dat : Int) (dcl cl : Bool) (M : List Th) (r : List SG × List Int × Int × Int × Bool) (E : Ending) (w' : World) : Prop :=
  ∃ outv, E = .returned (.tuple #[outv, .int .i64 (errOf r.2.2.2.2)]) ∧ Seg w0 g gd lim kept dat dcl r.2.1 r.2.2.1 r.2.2.2.1 cl (errOf r.2.2.2.2) (M ++ [rowT kG TG w0.heap.size outv r.1]) w'
set_option maxRecDepth 100000 in
set_option maxHeartbeats 4000000 in
theorem WriteOk (w0 : World) (hG : G w0) (w : World) (g gd : Nat) (lim : Int) (kept : List Int) (dat : Int) (o : List Int) (a e : Int) (M : List Th) (h : Seg w0 g gd lim kept dat false o a e false 0 M w)
    (A : Option Addr) (n c : Nat) (bs : List Int) (hb : KB.C w A n bs) (hB : Bytes (kept ++ bs)) (hlen : kept.length + n ≤ 100000000) (hat : 0 ≤ dat ∧ dat ≤ 1000000000000) (hlim : lim ≤ 50000000) (ho : (o.length : Int) ≤ lim) (ho32 : ∀ x ∈ o, I32 x)
    (pts : List SP) (kept' : List Int) (dat' : Int) (hp : dc (kept ++ bs) dat = (pts, kept', dat')) :
    Calls Tryz.prog 92 #[.pointer (some ⟨g, 0, none⟩), .slice A n c] w (WritePost w0 g gd lim kept' dat' false false M (tk lim pts o a e)) := by
  obtain ⟨ov, hS⟩ := h
  have hbl := (hS.blk 0 rfl).1
  have HE := Aside0.mk (EndR hbl)
  have c0 := blk_cell hbl 0
  simp only [segCells] at c0
  have hdl := Ux.dc_len (kept ++ bs) dat
  have hn := (rdint hb).1
  have hf : ∀ p ∈ pts, fine p := by
    have := dec_fine (kept ++ bs).length (kept ++ bs) dat hB hat.1 (by rw [List.length_append]; omega)
    rw [show dec (kept ++ bs).length (kept ++ bs) dat = dc (kept ++ bs) dat from rfl, hp] at this
    exact this
  have e1 := congrArg (fun q => q.1) hp
  have e2 := congrArg (fun q => q.2.1) hp
  have e3 := congrArg (fun q => q.2.2) hp
  simp only at e1 e2 e3
  rw [e1, e2] at hdl
  have hpl : pts.length ≤ 100000000 := by have := hdl.2.1; rw [List.length_append] at this; omega
  have HW := Aside0.mk (Dc.WriteS hS 2 rfl A n c bs (rdint hb) hB (by omega) ⟨hat.1, by omega⟩)
  rw [e1, e2, e3] at HW
  have HF := Aside0.mk hf
  have HO := Aside0.mk ho32
  obtain ⟨R, hR⟩ : ∃ R, R = tk lim pts o a e := ⟨_, rfl⟩
  obtain ⟨q, hq⟩ : ∃ q, q = pts.length := ⟨_, rfl⟩
  rw [← hq] at HW hpl
  rw [← hR]
  have HR := Aside0.mk hR
  clear hS hbl hb hB hlen hat ho32 hp hdl hn hf e1 e2 e3 hR hq
  go_enter Tryz.func92, Tryz.ntmps92
  go_wp2_with (first | (go_at_call 106; go_must (refine HE.out.mono ?_; rintro E w1 ⟨rfl, rfl⟩)) | (go_at_call 108; go_must (refine HW.out.mono ?_; rintro E w2 ⟨A2, c2, rfl, p1⟩; have S2 := Aside0.mk (Sep.perm (show Sep w0 (blkT g (segCells gd lim ov a e false 0) TS :: rowT K3 T3 w0.heap.size ov o :: decT gd w0.heap.size kept' dat' false :: (M ++ [rowT kP TP w0.heap.size (.slice A2 q c2) pts])) w2 from p1) (rot3 _ _ _ _ _)); clear p1)) | (go_at_call 107; go_must (refine (TakeS w0 hG w2 g gd lim false A2 q c2 pts (decT gd w0.heap.size kept' dat' false :: M) o a e ov S2.out HF.out hpl hlim ho HO.out).mono ?_; rw [← HR.out]; rintro E w3 ⟨outv, rfl, ov3, p1⟩; have S3 := Aside0.mk (Sep.perm p1 (unrot3 _ _ _ _ _)); clear p1)))
  go_ret2
  exact ⟨outv, rfl, ov3, by
    have h := S3.out.init_ (blkT g (segCells gd lim ov3 R.2.2.1 R.2.2.2.1 false (errOf R.2.2.2.2)) TS :: rowT K3 T3 w0.heap.size ov3 R.2.1 :: decT gd w0.heap.size kept' dat' false :: (M ++ [rowT kG TG w0.heap.size outv R.1])) _ rfl
    exact h⟩
def fin (r : List SG × List Int × Int × Int × Bool) : List SG := if r.2.2.2.2 = true then r.1 else if r.2.1.isEmpty = true then r.1 else r.1 ++ [⟨txt r.2.1, r.2.2.1, r.2.2.2.1⟩]
def ClosePost (w0 : World) (g gd : Nat) (lim : Int) (dat : Int) (M : List Th) (r : List SG × List Int × Int × Int × Bool) (E : Ending) (w' : World) : Prop :=
  ∃ outv, E = .returned (.tuple #[outv, .int .i64 (errOf r.2.2.2.2)]) ∧ Seg w0 g gd lim [] dat true [] r.2.2.1 r.2.2.2.1 true (errOf r.2.2.2.2) (M ++ [rowT kG TG w0.heap.size outv (fin r)]) w'
theorem tk_open (lim : Int) (hlim : 0 ≤ lim) : ∀ (ps : List SP) (o : List Int) (a e : Int), (o.length : Int) ≤ lim → (∀ x ∈ o, I32 x) → (∀ p ∈ ps, fine p) → ((tk lim ps o a e).2.1.length : Int) ≤ lim ∧ (∀ x ∈ (tk lim ps o a e).2.1, I32 x) ∧ (tk lim ps o a e).1.length ≤ ps.length ∧ ((tk lim ps o a e).2.2.2.2 = true → (tk lim ps o a e).2.1 = [])
  | [], o, a, e, h1, h2, _ => ⟨h1, h2, Nat.le_refl _, fun h => by simp [tk] at h⟩
  | p :: ps, o, a, e, h1, h2, h3 => by
    have hp := h3 p (List.mem_cons_self ..)
    have hd := Oa.dec_bot p.f0 hp.1
    have ht := fun q hq => h3 q (List.mem_cons_of_mem _ hq)
    rw [tk]
    split
    · split
      · exact ⟨by simpa using hlim, by simp, by simp, fun _ => rfl⟩
      · have ih := tk_open lim hlim ps (decU p.f0) p.f1 (p.f1 + p.f2) (by omega) (fun x hx => (hd x hx).2) ht
        exact ⟨ih.1, ih.2.1, by simp only [List.length_cons]; omega, ih.2.2.2⟩
    · split
      · exact ⟨by simpa using hlim, by simp, by simp, fun _ => rfl⟩
      · have ih := tk_open lim hlim ps (o ++ decU p.f0) a (p.f1 + p.f2) (by omega) (fun x hx => (List.mem_append.1 hx).elim (h2 x) (fun h => (hd x h).2)) ht
        exact ⟨ih.1, ih.2.1, by simp only [List.length_cons]; omega, ih.2.2.2⟩
set_option maxRecDepth 100000 in
set_option maxHeartbeats 8000000 in
theorem CloseOk (w0 : World) (hG : G w0) (w : World) (g gd : Nat) (lim : Int) (kept : List Int) (dat : Int) (o : List Int) (a e : Int) (M : List Th) (h : Seg w0 g gd lim kept dat false o a e false 0 M w)
    (hlen : kept.length ≤ 100000000) (hat : 0 ≤ dat ∧ dat ≤ 1000000000000) (hlim0 : 0 ≤ lim) (hlim : lim ≤ 50000000) (ho : (o.length : Int) ≤ lim) (ho32 : ∀ x ∈ o, I32 x) :
    Calls Tryz.prog 93 #[.pointer (some ⟨g, 0, none⟩)] w (ClosePost w0 g gd lim dat M (tk lim (rest1 kept dat) o a e)) := by
  obtain ⟨ov, hS⟩ := h
  have hbl := (hS.blk 0 rfl).1
  have HE := Aside0.mk (EndR hbl)
  have c5 := blk_cell hbl 5
  have f5 := blk_frozen hbl 5
  simp only [segCells] at c5
  have hf : ∀ p ∈ rest1 kept dat, fine p := rest_fine kept dat hat.1 (by omega)
  have hop := tk_open lim hlim0 (rest1 kept dat) o a e ho ho32 hf
  have hrl : (rest1 kept dat).length ≤ 1 := by unfold rest1; split <;> simp
  obtain ⟨pts, hpts⟩ : ∃ pts, pts = rest1 kept dat := ⟨_, rfl⟩
  rw [← hpts] at hf hop hrl ⊢
  obtain ⟨R, hR⟩ : ∃ R, R = tk lim pts o a e := ⟨_, rfl⟩
  rw [← hR] at hop ⊢
  have S1 := Aside0.mk (show Sep w0 (blkT g (segCells gd lim ov a e true 0) TS :: rowT K3 T3 w0.heap.size ov o :: decT gd w0.heap.size kept dat false :: M) (w.setCell ⟨g, 5, none⟩ (.bool true)) from hS.blk_set 0 rfl 5 (.bool true) rfl)
  have c0 := blk_cell (S1.out.blk 0 rfl).1 0
  simp only [segCells] at c0
  have HW := Aside0.mk (Dc.CloseS S1.out 2 rfl)
  rw [← hpts] at HW
  obtain ⟨q, hq⟩ : ∃ q, q = pts.length := ⟨_, rfl⟩
  rw [← hq] at HW hrl hop
  have HF := Aside0.mk hf
  have HO := Aside0.mk ho32
  have HR := Aside0.mk hR
  have HOP := Aside0.mk hop
  have hq1 : q ≤ 100000000 := by omega
  clear hS hbl hlen hat ho32 hf hR hq hpts hop S1
  go_enter Tryz.func93, Tryz.ntmps93
  go_upto_region 6 with (first | (go_at_call 106; go_must (refine HE.out.mono ?_; rintro E w1 ⟨rfl, rfl⟩)) | (go_at_call 109; go_must (refine HW.out.mono ?_; rintro E w2 ⟨A2, c2, rfl, p1⟩; have S2 := Aside0.mk (Sep.perm (show Sep w0 (blkT g (segCells gd lim ov a e true 0) TS :: rowT K3 T3 w0.heap.size ov o :: decT gd w0.heap.size [] dat true :: (M ++ [rowT kP TP w0.heap.size (.slice A2 q c2) pts])) w2 from p1) (rot3 _ _ _ _ _)); clear p1)) | (go_at_call 107; go_must (refine (TakeS w0 hG w2 g gd lim true A2 q c2 pts (decT gd w0.heap.size [] dat true :: M) o a e ov S2.out HF.out hq1 hlim ho HO.out).mono ?_; rw [← HR.out]; rintro E w3 ⟨outv, rfl, ov3, p1⟩; have S3 := Aside0.mk (Sep.perm p1 (unrot3 _ _ _ _ _)); clear p1)))
  obtain ⟨out, o', a', e', bad⟩ := R
  have S4 := Aside0.mk (show Sep w0 (blkT g (segCells gd lim ov3 a' e' true (errOf bad)) TS :: rowT K3 T3 w0.heap.size ov3 o' :: decT gd w0.heap.size [] dat true :: (M ++ [rowT kG TG w0.heap.size outv out])) w3 from S3.out.init_ (blkT g (segCells gd lim ov3 a' e' true (errOf bad)) TS :: rowT K3 T3 w0.heap.size ov3 o' :: decT gd w0.heap.size [] dat true :: (M ++ [rowT kG TG w0.heap.size outv out])) _ rfl)
  clear S3 HR HW HE c0 c5 f5
  cases bad with
  | true =>
    have hb : o' = [] := HOP.out.2.2.2 rfl
    subst hb
    have h6 : errOf true = 6 := rfl
    have HP := Aside0.mk (show ∀ E w', E = .returned (.tuple #[outv, .int .i64 6]) → w' = w3 → ClosePost w0 g gd lim dat M (out, [], a', e', true) E w' from fun E w' hE hw => by subst hE hw; exact ⟨outv, rfl, ov3, S4.out⟩)
    go_wp2
    go_ret2
    exact HP.out _ _ rfl rfl
  | false =>
    obtain ⟨A3, c3, rfl, hc3, hC3⟩ := S4.out.reads 1 rfl
    obtain ⟨m, hm⟩ : ∃ m, m = o'.length := ⟨_, rfl⟩
    rw [← hm] at S4 hc3 hC3
    have c2' := blk_cell (S4.out.blk 0 rfl).1 2
    simp only [segCells] at c2'
    have HM := Aside0.mk hm
    have HC3 := Aside0.mk hC3
    have HP1 := Aside0.mk HOP.out.2.1
    have hml : (m : Int) ≤ lim := by rw [hm]; exact HOP.out.1
    have hol : out.length ≤ q := HOP.out.2.2.1
    clear hm hC3 HOP
    rcases Nat.eq_zero_or_pos m with h0 | h0
    · subst h0
      have hb : o' = [] := List.eq_nil_of_length_eq_zero HM.out.symm
      subst hb
      have hd3 : decide ((0 : Int) > 0) = false := rfl
      have HP := Aside0.mk (show ∀ E w', E = .returned (.tuple #[outv, .int .i64 0]) → w' = w3 → ClosePost w0 g gd lim dat M (out, [], a', e', false) E w' from fun E w' hE hw => by subst hE hw; exact ⟨outv, rfl, _, S4.out⟩)
      go_wp2
      go_ret2
      exact HP.out _ _ rfl rfl
    · have hd3 : decide (0 < m) = true := decide_eq_true h0
      have hne : o'.isEmpty = false := by
        cases o' with
        | nil => exact absurd HM.out (by simp; omega)
        | cons x t => rfl
      have HNE := Aside0.mk hne
      have HWh := Aside0.mk (WholeP w3 (hG.below S4.out.below) g gd lim a' e' 0 true A3 m c3 o' (S4.out.blk 0 rfl).1 HC3.out HM.out hc3 HP1.out (by omega))
      clear hne c2'
      have c2' := blk_cell (S4.out.blk 0 rfl).1 2
      simp only [segCells] at c2'
      go_upto_region 8 with (first | (go_at_call 110; go_must (refine HWh.out.mono ?_; rintro E w4 ⟨rfl, p1⟩; have S5 := Aside0.mk (S4.out.later p1); clear p1; obtain ⟨ok1, hR1, hf1, hN1⟩ := Sep.row (d := kG) (e := TG) (base := w0.heap.size) (v := outv) (xs := out) S5.out (M.length + 3) (at3 _ _ _ _ _ _); have HR1 := Aside0.mk hR1; have HF1 := Aside0.mk hf1; have HN1 := Aside0.mk hN1; have HB3 := Aside0.mk S5.out.below; clear hR1 hf1 hN1)) | (at_builtin; go_must (refine Kd.R_append kG (w0 := w0) w0.heap.size rfl (.tmp 35) (.tmp 38) 137 TG (.agg #[.string ⟨#[]⟩, .int .i64 0, .int .i64 0]) 32 rfl Tryz.underlying137 info154 rfl (by decide) (by decide) outv out (⟨txt o', a', e'⟩ : SG) [.string (txt o'), .int .i64 a', .int .i64 e'] ok1 (fun _ => False) rfl rfl ?aP (fun _ hk => hk.elim) ?aF ?aO ?aB ?aS ?aL ?_; (case aP => exact k154_mkM _ _ _ ⟨txt o', a', e'⟩); (case aB => exact HB3.out); (case aF => exact HF1.out); (case aO => exact HR1.out); (case aS => exact HB3.out.size); (case aL => omega); intro v6 w5 ho hb hg hat; have S6 := Aside0.mk (show Sep w0 (blkT g (segCells gd lim (.slice A3 m c3) a' e' true 0) TS :: rowT K3 T3 w0.heap.size (.slice A3 m c3) o' :: decT gd w0.heap.size [] dat true :: (M ++ [rowT kG TG w0.heap.size v6 (out ++ [⟨txt o', a', e'⟩])])) w5 from (by have h := HN1.out v6 w5 _ ho hg; rw [set3] at h; exact h)); clear ho hb hg hat HR1 HF1 HN1 S5)))
      clear c2' S4
      have c2' := blk_cell (S6.out.blk 0 rfl).1 2
      have f2' := blk_frozen (S6.out.blk 0 rfl).1 2
      simp only [segCells] at c2'
      have S7 := Aside0.mk (show Sep w0 (blkT g (segCells gd lim (.slice none 0 0) a' e' true 0) TS :: rowT K3 T3 w0.heap.size (.slice none 0 0) [] :: decT gd w0.heap.size [] dat true :: (M ++ [rowT kG TG w0.heap.size v6 (out ++ [⟨txt o', a', e'⟩])])) (w5.setCell ⟨g, 2, none⟩ (.slice none 0 0)) from (S6.out.blk_set 0 rfl 2 (.slice none 0 0) rfl).let_go K3 T3 w0.heap.size 1 rfl)
      have HFN := Aside0.mk (show fin (out, o', a', e', false) = out ++ [⟨txt o', a', e'⟩] by unfold fin; simp [HNE.out])
      go_wp2
      go_ret2
      unfold ClosePost
      rw [HFN.out]
      exact ⟨v6, rfl, _, S7.out⟩
end Go.Proofs.YtdambnclbpipdaaGreatDoor.Sgc
namespace Go.Proofs.YtdambnclbpipdaaGreatDoor.Sgd
set_option linter.unusedVariables false
set_option linter.unusedSimpArgs false
open Go.Proofs.YtdambnclbpipdaaGreatDoor.Vd (decU)
open Go.Proofs.YtdambnclbpipdaaGreatDoor.Ve (opn)
open Go.Proofs.YtdambnclbpipdaaGreatDoor.Fr (K3 T3)
open Go.Proofs.YtdambnclbpipdaaGreatDoor.Ux (Bytes one1 dc rest1 full dec)
open Go.Proofs.YtdambnclbpipdaaGreatDoor.Dc (decT)
open Go.RowKit Go.Proofs.YtdambnclbpipdaaGreatDoorW.PrintWords Go.Proofs.YtdambnclbpipdaaGreatDoor.Hp Go.Proofs.YtdambnclbpipdaaGreatDoor.Fm Go.Proofs.YtdambnclbpipdaaGreatDoor.X Go.Proofs.YtdambnclbpipdaaGreatDoor.Va Go.Proofs.YtdambnclbpipdaaGreatDoor.Oa Go.Proofs.YtdambnclbpipdaaGreatDoor.Vp0 Go.Proofs.YtdambnclbpipdaaGreatDoor.Cn Go.Proofs.YtdambnclbpipdaaGreatDoor.Sga Go.Proofs.YtdambnclbpipdaaGreatDoor.Sgb Go.Proofs.YtdambnclbpipdaaGreatDoor.Sgc
theorem tk_app (lim : Int) : ∀ (ps qs : List SP) (o : List Int) (a e : Int), tk lim (ps ++ qs) o a e = if (tk lim ps o a e).2.2.2.2 = true then tk lim ps o a e else catT (tk lim ps o a e).1 (tk lim qs (tk lim ps o a e).2.1 (tk lim ps o a e).2.2.1 (tk lim ps o a e).2.2.2.1)
  | [], qs, o, a, e => by simp [tk, catT]
  | p :: ps, qs, o, a, e => by
    rw [List.cons_append, tk, tk]
    split
    · split
      · simp
      · rw [tk_app lim ps qs]
        by_cases hb : (tk lim ps (decU p.f0) p.f1 (p.f1 + p.f2)).2.2.2.2 = true
        · rw [if_pos hb, if_pos hb]
        · rw [if_neg hb, if_neg hb]; simp [catT]
    · split
      · simp
      · exact tk_app lim ps qs _ _ _
theorem fin_cat (x : List SG) (r : List SG × List Int × Int × Int × Bool) : fin (catT x r) = x ++ fin r := by
  unfold fin catT
  simp only
  split
  · rfl
  · split
    · rfl
    · rw [List.append_assoc]
def segs (lim : Int) (b : List Int) : List SG × List Int × Int × Int × Bool := tk lim (full b) [] 0 0
def splitF (lim : Int) (b : List Int) : List SG × Int := if lim < 1 ∨ lim > 64 then ([], 1) else (fin (segs lim b), errOf (segs lim b).2.2.2.2)
section
variable {w0 w : World} {L : List Th}
theorem NewNo (w : World) (lim : Int) (h : lim < 1 ∨ lim > 64) : Calls Tryz.prog 91 #[.int .i64 lim] w fun E w' => E = .returned (.tuple #[.pointer none, .int .i64 1]) ∧ w = w' := by
  by_cases h1 : lim < 1
  · have hd : decide (lim < 1) = true := decide_eq_true h1
    go_enter Tryz.func91, Tryz.ntmps91
    go_wp2
    go_ret2
    exact ⟨rfl, rfl⟩
  · have hd : decide (lim < 1) = false := decide_eq_false h1
    have hd2 : decide (lim > 64) = true := decide_eq_true (by omega)
    have hd3 : decide (64 < lim) = true := hd2
    go_enter Tryz.func91, Tryz.ntmps91
    go_wp2
    go_ret2
    exact ⟨rfl, rfl⟩
theorem seg3 (d x o : Th) (L : List Th) : ((L ++ [d]) ++ [x] ++ [o]).Perm (x :: o :: d :: L) := by
  have h1 : ((L ++ [d]) ++ [x] ++ [o]).Perm ([x, o] ++ (L ++ [d])) := by
    have e : (L ++ [d]) ++ [x] ++ [o] = (L ++ [d]) ++ [x, o] := by simp
    rw [e]
    exact List.perm_append_comm
  refine h1.trans (.cons x (.cons o ?_))
  exact List.perm_append_comm (l₁ := L) (l₂ := [d])
theorem NewOk (h : Sep w0 L w) (lim : Int) (h1 : 1 ≤ lim) (h2 : lim ≤ 64) : Calls Tryz.prog 91 #[.int .i64 lim] w fun E w' => ∃ g gd, E = .returned (.tuple #[.pointer (some ⟨g, 0, none⟩), .int .i64 0]) ∧ Seg w0 g gd lim [] 0 false [] 0 0 false 0 L w' := by
  have hd : decide (lim < 1) = false := decide_eq_false (by omega)
  have hd2 : decide (lim > 64) = false := decide_eq_false (by omega)
  have hd3 : decide (64 < lim) = false := hd2
  have H := Aside0.mk (Dc.NewS h)
  clear h1 h2
  go_enter Tryz.func91, Tryz.ntmps91
  go_wp2_with (first | (go_at_call 105; go_must (refine H.out.mono ?_; rintro E w1 ⟨gd, rfl, p1⟩; have S1 := Aside0.mk p1; clear p1)))
  go_ret2
  refine ⟨w1.heap.size, gd, rfl, .slice none 0 0, ?_⟩
  have s := ((S1.out.blk_new (segCells gd lim (.slice none 0 0) 0 0 false 0) TS).empty K3 T3 w0.heap.size)
  exact s.perm (seg3 _ _ _ _)
end
theorem kG_KM {w w' : World} {base : Nat} {ok : Nat → Prop} (x : SG) (cs : List Value) (h : kG.K w x cs) : kG.M w' base ok x cs := by
  obtain rfl := k154_open h
  exact k154_mkM _ _ _ _
def SplitPost (w : World) (r : List SG × Int) (E : Ending) (w' : World) : Prop := ∃ v, E = .returned (.tuple #[v, .int .i64 r.2]) ∧ kG.R TG w' w.heap.size (fun _ => True) v r.1 ∧ Below w.heap.size w w'
theorem post_of {w w' : World} {L : List Th} (h : Sep w L w') (i : Nat) {v : Value} {l : List SG} (hi : L[i]? = some (rowT kG TG w.heap.size v l)) : kG.R TG w' w.heap.size (fun _ => True) v l := by
  obtain ⟨ok, h1⟩ := h.one i _ hi
  exact Kd.R_mono h1 (fun _ _ => trivial)
set_option maxRecDepth 100000 in
set_option maxHeartbeats 4000000 in
theorem SplitP (w : World) (hG : G w) (A : Option Addr) (n c : Nat) (b : List Int) (hC : KB.C w A n b) (hn : n = b.length) (hB : Bytes b) (hl : n ≤ 10000000) (lim : Int) :
    Calls Tryz.prog 77 #[.slice A n c, .int .i64 lim] w (SplitPost w (splitF lim b)) := by
  by_cases hlm : lim < 1 ∨ lim > 64
  · have HP := Aside0.mk (show ∀ E w', E = .returned (.tuple #[.slice none 0 0, .int .i64 1]) → w' = w → SplitPost w (splitF lim b) E w' from fun E w' h1 h2 => by
      subst h1 h2
      unfold splitF
      rw [if_pos hlm]
      exact ⟨_, rfl, Kd.R_nil _ _ _ _ _, Below.refl _ _⟩)
    have HN := Aside0.mk (NewNo w lim hlm)
    clear hlm hC hn hB hl
    go_enter Tryz.func77, Tryz.ntmps77
    go_wp2_with (first | (go_at_call 91; go_must (refine HN.out.mono ?_; rintro E w1 ⟨rfl, rfl⟩)))
    go_ret2
    exact HP.out _ _ rfl rfl
  · have hsp : splitF lim b = (fin (segs lim b), errOf (segs lim b).2.2.2.2) := if_neg hlm
    have hdl := Ux.dc_len b 0
    have hdr := Ux.dc_rest b 0
    have hff := dec_fine b.length b 0 hB (Int.le_refl _) (by omega)
    rw [show dec b.length b 0 = dc b 0 from rfl] at hff
    obtain ⟨pts, hpts⟩ : ∃ pts, pts = (dc b 0).1 := ⟨_, rfl⟩
    obtain ⟨kept, hkept⟩ : ∃ kept, kept = (dc b 0).2.1 := ⟨_, rfl⟩
    obtain ⟨dat, hdat⟩ : ∃ dat, dat = (dc b 0).2.2 := ⟨_, rfl⟩
    have hdc : dc ([] ++ b) 0 = (pts, kept, dat) := by rw [List.nil_append, hpts, hkept, hdat]
    have hfull : full b = pts ++ rest1 kept dat := by rw [hpts, hkept, hdat]; rfl
    rw [← hpts] at hff
    rw [← hpts, ← hkept, ← hdat] at hdl
    rw [← hkept] at hdr
    obtain ⟨R, hR⟩ : ∃ R, R = tk lim pts [] 0 0 := ⟨_, rfl⟩
    have hop := tk_open lim (by omega) pts [] 0 0 (by simp; omega) (by simp) hff
    have hseg : segs lim b = if R.2.2.2.2 = true then R else catT R.1 (tk lim (rest1 kept dat) R.2.1 R.2.2.1 R.2.2.2.1) := by
      unfold segs
      rw [hfull, tk_app, ← hR]
    rw [← hR] at hop
    have HN := Aside0.mk (NewOk (Sep.nil w) lim (by omega) (by omega))
    have HDC := Aside0.mk hdc
    have HRR := Aside0.mk hR
    have HSP := Aside0.mk hsp
    have HSG := Aside0.mk hseg
    have HC := Aside0.mk hC
    have HB := Aside0.mk hB
    have HOP := Aside0.mk hop
    have hlim1 : 0 ≤ lim := by omega
    have hlim2 : lim ≤ 50000000 := by omega
    have hkl : kept.length ≤ 3 := hdr.1
    have hda0 : 0 ≤ dat ∧ dat ≤ 1000000000000 := by omega
    have HDA := Aside0.mk hda0
    have hpl : pts.length ≤ 10000000 := by omega
    clear hlm hC hn hB hsp hdl hdr hff hpts hkept hdat hdc hfull hR hop hseg hda0
    go_enter Tryz.func77, Tryz.ntmps77
    go_upto_region 5 with (first | (go_at_call 91; go_must (refine HN.out.mono ?_; rintro E w1 ⟨g, gd, rfl, p1⟩; have S1 := Aside0.mk p1; clear p1)) | (go_at_call 92; go_must (refine (WriteOk w hG w1 g gd lim [] 0 [] 0 0 [] S1.out A n c b (by obtain ⟨_, s⟩ := S1.out; exact Kd.C_below HC.out s.below) (by rw [List.nil_append]; exact HB.out) (by simp; omega) (by omega) hlim2 (by simp; omega) (by simp) pts kept dat HDC.out).mono ?_; rw [← HRR.out]; rintro E w2 ⟨outv, rfl, p1⟩; have S2 := Aside0.mk p1; clear p1 S1)))
    clear HN HRR
    obtain ⟨out, o, a, e, bad⟩ := R
    cases bad with
    | true =>
      have h6 : errOf true = 6 := rfl
      have HP := Aside0.mk (show ∀ E w', E = .returned (.tuple #[outv, .int .i64 6]) → w' = w2 → SplitPost w (splitF lim b) E w' from fun E w' h1 h2 => by
        subst h1 h2
        rw [HSP.out, HSG.out, if_pos rfl]
        obtain ⟨ov, s⟩ := S2.out
        exact ⟨_, rfl, post_of s 3 rfl, s.below⟩)
      go_wp2
      go_ret2
      exact HP.out _ _ rfl rfl
    | false =>
      have h0 : errOf false = 0 := rfl
      have hs : splitF lim b = (out ++ fin (tk lim (rest1 kept dat) o a e), errOf (tk lim (rest1 kept dat) o a e).2.2.2.2) := by
        rw [HSP.out, HSG.out, if_neg (by simp), fin_cat]; rfl
      have hfl : (fin (tk lim (rest1 kept dat) o a e)).length ≤ 10 := by
        have h := (tk_open lim hlim1 (rest1 kept dat) o a e HOP.out.1 HOP.out.2.1 (rest_fine kept dat HDA.out.1 (by have := HDA.out; omega))).2.2.1
        have hr : (rest1 kept dat).length ≤ 1 := by unfold rest1; split <;> simp
        unfold fin
        split
        · omega
        · split
          · omega
          · rw [List.length_append, List.length_singleton]; omega
      obtain ⟨R2, hR2⟩ : ∃ R2, R2 = tk lim (rest1 kept dat) o a e := ⟨_, rfl⟩
      rw [← hR2] at hs hfl
      have HS2 := Aside0.mk hs
      have HR2 := Aside0.mk hR2
      have hol : out.length ≤ 10000000 := Nat.le_trans HOP.out.2.2.1 hpl
      clear hs hR2 HSP HSG
      go_upto_region 8 with (first | (go_at_call 93; go_must (refine (CloseOk w hG w2 g gd lim kept dat o a e [rowT kG TG w.heap.size outv out] S2.out (by omega) HDA.out hlim1 hlim2 HOP.out.1 HOP.out.2.1).mono ?_; rw [← HR2.out]; rintro E w3 ⟨outv2, rfl, p1⟩; have S3 := Aside0.mk p1; clear p1)))
      clear HR2 S2
      obtain ⟨ov, hS⟩ := S3.out
      obtain ⟨ok1, hR1, hf1, hN1⟩ := Sep.row (d := kG) (e := TG) (base := w.heap.size) (v := outv) (xs := out) hS 3 rfl
      obtain ⟨A2, c2, rfl, hc2, hC2⟩ := Sep.reads (d := kG) (e := TG) (base := w.heap.size) (v := outv2) (xs := fin R2) hS 4 rfl
      have HB3 := Aside0.mk hS.below
      have HR1 := Aside0.mk hR1
      have HF1 := Aside0.mk hf1
      have HN1 := Aside0.mk hN1
      have HC2 := Aside0.mk hC2
      clear hS hR1 hf1 hN1 hC2 hc2 S3
      go_wp2_with (first | (at_builtin; go_must (refine Kd.R_append_rows kG (Rr := kG.K w3) (w0 := w) w.heap.size rfl (.tmp 33) (.tmp 34) 137 TG (.agg #[.string ⟨#[]⟩, .int .i64 0, .int .i64 0]) 32 rfl Tryz.underlying137 info154 rfl (by decide) (by decide) outv out (fin R2) A2 (fin R2).length c2 ok1 (fun _ => False) rfl rfl HR1.out HC2.out (fun x cs h => kG_KM x cs h) (fun _ h => h.elim) HF1.out HB3.out HB3.out.size (by omega) ?hh)))
      case hh =>
        intro v1 w4 ho hb hg hat
        have hs := HN1.out v1 w4 _ ho hg
        have HP := Aside0.mk (show ∀ E w', E = .returned (.tuple #[v1, .int .i64 (errOf R2.2.2.2.2)]) → w' = w4 → SplitPost w (splitF lim b) E w' from fun E w' h1 h2 => by
          subst h1 h2
          rw [HS2.out]
          exact ⟨_, rfl, post_of hs 3 rfl, hs.below⟩)
        clear ho hb hg hat hs HN1 HR1 HF1 HC2
        go_wp2
        go_ret2
        exact HP.out _ _ rfl rfl
theorem sg_at {w : World} {A : Option Addr} {n : Nat} {l : List SG} (h : Kd.C kG w A n l) (j : Nat) (hj : j < n) (hjl : j < l.length) :
    ∃ ad, A = some ad ∧ w.cell? (ad.add (j * 3)) = some (.string l[j].f0) ∧ w.cell? ⟨(ad.add (j * 3)).block, (ad.add (j * 3)).off + 1, none⟩ = some (.int .i64 l[j].f1) ∧ w.cell? ⟨(ad.add (j * 3)).block, (ad.add (j * 3)).off + 2, none⟩ = some (.int .i64 l[j].f2) := by
  have := at_T154 h (j : Int) (by omega) (by omega)
  have e : rd_T154 l (j : Int) = l[j] := by unfold rd_T154; simp [List.getD_eq_getElem?_getD, List.getElem?_eq_getElem hjl]
  rw [Int.toNat_natCast, e] at this
  exact this
end Go.Proofs.YtdambnclbpipdaaGreatDoor.Sgd
namespace Go.Proofs.YtdambnclbpipdaaGreatDoor.X
set_option linter.unusedVariables false
set_option linter.unusedSimpArgs false
open Go.RowKit Go.Proofs.YtdambnclbpipdaaGreatDoorW.PrintWords Go.Proofs.YtdambnclbpipdaaGreatDoorW.PrintLast Go.Proofs.YtdambnclbpipdaaGreatDoorW.PrintMore Go.Proofs.YtdambnclbpipdaaGreatDoor.Ux
def bytesB (l : List Int) : Bool := l.all fun x => decide (0 ≤ x) && decide (x ≤ 255)
theorem bytesB_of {l : List Int} (h : bytesB l = true) : Bytes l := fun x hx => by
  have := List.all_eq_true.1 h x hx
  simp only [Bool.and_eq_true, decide_eq_true_eq] at this
  exact this
theorem bytesB_mk {l : List Int} (h : Bytes l) : bytesB l = true := List.all_eq_true.2 fun x hx => by
  have := h x hx
  simp only [Bool.and_eq_true, decide_eq_true_eq]
  exact this
def seg_Split.f (l : List Int) (lim : Int) : Option (List S154 × Int) := if bytesB l = true ∧ l.length ≤ 10000000 then some (Sgd.splitF lim l) else none
theorem seg_Split.calls (A0 : Option Addr) (c0 : Nat) (l0 : List Int) (a1 : Int) (r1 : List S154) (r2 : Int) (w : World) (hr0 : Kd.C (Kd.int .u8) w A0 l0.length l0) (hc0 : l0.length ≤ c0) (h : seg_Split.f l0 a1 = some (r1, r2)) (hG0 : Va.G w) :
    Calls Tryz.prog 77 #[.slice A0 l0.length c0, .int .i64 a1] w fun e w' => ∃ v0_ : Value, e = .returned (.tuple #[v0_, .int .i64 r2]) ∧ Kd.R k154 154 w' w.heap.size (fun _ => True) v0_ r1 ∧ Below w.heap.size w w' := by
  unfold seg_Split.f at h
  split at h
  · rename_i hh
    have h := Option.some.inj h
    refine (Sgd.SplitP w hG0 A0 l0.length c0 l0 hr0 rfl (bytesB_of hh.1) (by omega) a1).mono ?_
    rintro e w' ⟨v, rfl, p1, p2⟩
    rw [h] at p1 ⊢
    exact ⟨v, rfl, p1, p2⟩
  · cases h
def lenF (s : ByteArray) : Nat := (Ot.rns (bytesOf s)).length
end Go.Proofs.YtdambnclbpipdaaGreatDoor.X
namespace Go.Proofs.YtdambnclbpipdaaGreatDoor.Rt
set_option linter.unusedVariables false
set_option linter.unusedSimpArgs false
open Go.RowKit Go.Proofs.YtdambnclbpipdaaGreatDoorW.PrintWords Go.Proofs.YtdambnclbpipdaaGreatDoor.Hp Go.Proofs.YtdambnclbpipdaaGreatDoor.Ux Go.Proofs.YtdambnclbpipdaaGreatDoor.En Go.Proofs.YtdambnclbpipdaaGreatDoor.X
theorem one1_enc (f : Int) (hv : vld f = true) (s : List Int) : ∃ c t, encv f = c :: t ∧ one1 c (t ++ s) = (f, (((encv f).length : Nat) : Int), false) := by
  simp only [vld, decide_eq_true_eq] at hv
  unfold encv
  split
  · rename_i h1
    exact ⟨f, [], rfl, by simp [one1, bnd, st, h1, cont]⟩
  · split
    · rename_i h1 h2
      refine ⟨_, _, rfl, ?_⟩
      unfold one1 bnd st
      rw [if_neg (by omega), if_neg (by omega), if_pos (by omega), if_neg (by omega), if_pos (by omega)]
      simp only [List.cons_append, List.nil_append, cont]
      rw [if_neg (by omega)]
      simp only [List.length_cons, List.length_nil, Prod.mk.injEq]
      exact ⟨by omega, by omega, trivial⟩
    · split
      · rename_i h1 h2 h3
        refine ⟨_, _, rfl, ?_⟩
        unfold one1 bnd st
        rw [if_neg (show ¬ (224 + f / 4096 < 128) by omega), if_neg (show ¬ (224 + f / 4096 < 194 ∨ 244 < 224 + f / 4096) by omega), if_neg (show ¬ (224 + f / 4096 < 224) by omega), if_pos (show 224 + f / 4096 < 240 by omega), if_neg (show ¬ (224 + f / 4096 < 128) by omega), if_neg (show ¬ (224 + f / 4096 < 224) by omega), if_pos (show 224 + f / 4096 < 240 by omega)]
        simp only [List.cons_append, List.nil_append, cont]
        rw [if_neg (by split <;> split <;> omega), if_neg (by omega)]
        simp only [List.length_cons, List.length_nil, Prod.mk.injEq]
        exact ⟨by omega, by omega, trivial⟩
      · rename_i h1 h2 h3
        refine ⟨_, _, rfl, ?_⟩
        unfold one1 bnd st
        rw [if_neg (show ¬ (240 + f / 262144 < 128) by omega), if_neg (show ¬ (240 + f / 262144 < 194 ∨ 244 < 240 + f / 262144) by omega), if_neg (show ¬ (240 + f / 262144 < 224) by omega), if_neg (show ¬ 240 + f / 262144 < 240 by omega), if_neg (show ¬ (240 + f / 262144 < 128) by omega), if_neg (show ¬ (240 + f / 262144 < 224) by omega), if_neg (show ¬ 240 + f / 262144 < 240 by omega)]
        simp only [List.cons_append, List.nil_append, cont]
        rw [if_neg (by split <;> split <;> omega), if_neg (by omega), if_neg (by omega)]
        simp only [List.length_cons, List.length_nil, Prod.mk.injEq]
        exact ⟨by omega, by omega, trivial⟩
theorem dc_encv (f : Int) (hv : vld f = true) (s : List Int) (p : Int) : dc (encv f ++ s) p = ((⟨f, p, (encv f).length⟩ : S202) :: (dc s (p + (encv f).length)).1, (dc s (p + (encv f).length)).2) := by
  obtain ⟨c, t, h1, h2⟩ := one1_enc f hv s
  have hl : (encv f).length = t.length + 1 := by rw [h1]; rfl
  rw [h1, List.cons_append, dc_cons, h2]
  simp only [Bool.false_eq_true, if_false]
  have e : (c :: (t ++ s)).drop (((encv f).length : Nat) : Int).toNat = s := by rw [Int.toNat_natCast, hl]; simp
  rw [e, hl]
  simp
end Go.Proofs.YtdambnclbpipdaaGreatDoor.Rt
namespace Go.Proofs.YtdambnclbpipdaaGreatDoor.Bk
set_option linter.unusedVariables false
set_option linter.unusedSimpArgs false
open Go.RowKit Go.Proofs.YtdambnclbpipdaaGreatDoorW.PrintWords Go.Proofs.YtdambnclbpipdaaGreatDoor.Hp Go.Proofs.YtdambnclbpipdaaGreatDoor.Ux Go.Proofs.YtdambnclbpipdaaGreatDoor.En Go.Proofs.YtdambnclbpipdaaGreatDoor.Rt Go.Proofs.YtdambnclbpipdaaGreatDoor.X
def ful (b : List Int) (p : Int) : List S202 := (dc b p).1 ++ rest1 (dc b p).2.1 (dc b p).2.2
theorem full_ful (b : List Int) : full b = ful b 0 := rfl
theorem ful_nil (p : Int) : ful [] p = [] := by simp [ful, dc_nil, rest1]
theorem ful_cons (c : Int) (t : List Int) (p : Int) : ful (c :: t) p = (⟨(one1 c t).1, p, (one1 c t).2.1⟩ : S202) :: ful ((c :: t).drop (one1 c t).2.1.toNat) (p + (one1 c t).2.1) := by
  cases h : (one1 c t).2.2 with
  | true =>
    have h3 := one1_more c t h
    have e : (c :: t).drop (one1 c t).2.1.toNat = [] := by rw [h3.2.1]; exact List.drop_eq_nil_of_le (by simp; omega)
    rw [e, ful_nil]
    unfold ful
    rw [dc_cons, if_pos h]
    simp [rest1, h3.1, h3.2.1]
    omega
  | false =>
    unfold ful
    rw [dc_cons, if_neg (by simp [h])]
    simp
theorem ful_enc1 (r : Int) (s : List Int) (p : Int) : ful (enc1 r ++ s) p = (⟨fixr r, p, (enc1 r).length⟩ : S202) :: ful s (p + (enc1 r).length) := by
  unfold ful enc1
  rw [dc_encv (fixr r) (fixr_ok r).2.2 s p]
  simp
theorem ful_enc : ∀ (l : List Int) (p : Int), (ful (enc l) p).map (·.f0) = l.map fixr
  | [], p => by simp [enc, ful_nil]
  | r :: l, p => by
    simp only [enc]
    rw [ful_enc1]
    simp [ful_enc l]
theorem str_inj {a b : List Int} (ha : Bytes a) (hb : Bytes b) (h : strOfNums a = strOfNums b) : a = b := by
  have h1 : a.map (fun n => UInt8.ofNat n.toNat) = b.map (fun n => UInt8.ofNat n.toNat) := by rw [← strOfNums_data, ← strOfNums_data, h]
  clear h
  induction a generalizing b with
  | nil => cases b with
    | nil => rfl
    | cons y b => simp at h1
  | cons x a ih =>
    cases b with
    | nil => simp at h1
    | cons y b =>
      simp only [List.map_cons] at h1
      injection h1 with h2 h3
      have hx := ha x List.mem_cons_self
      have hy := hb y List.mem_cons_self
      have h4 := congrArg UInt8.toNat h2
      simp only [UInt8.toNat_ofNat'] at h4
      have : x = y := by omega
      rw [this, ih (fun z hz => ha z (List.mem_cons_of_mem _ hz)) (fun z hz => hb z (List.mem_cons_of_mem _ hz)) h3]
end Go.Proofs.YtdambnclbpipdaaGreatDoor.Bk
namespace Go.Proofs.YtdambnclbpipdaaGreatDoor.Sgp
set_option linter.unusedVariables false
set_option linter.unusedSimpArgs false
open Go.Proofs.YtdambnclbpipdaaGreatDoor.Vd (decU)
open Go.Proofs.YtdambnclbpipdaaGreatDoor.Ve (opn)
open Go.Proofs.YtdambnclbpipdaaGreatDoor.Ux (Bytes one1 dc rest1 full dec)
open Go.Proofs.YtdambnclbpipdaaGreatDoor.En (enc fixr enc_byte enc_len)
open Go.RowKit Go.Proofs.YtdambnclbpipdaaGreatDoorW.PrintWords Go.Proofs.YtdambnclbpipdaaGreatDoor.Ev0 Go.Proofs.YtdambnclbpipdaaGreatDoor.X Go.Proofs.YtdambnclbpipdaaGreatDoor.Oa Go.Proofs.YtdambnclbpipdaaGreatDoor.Ob Go.Proofs.YtdambnclbpipdaaGreatDoor.Vp0 Go.Proofs.YtdambnclbpipdaaGreatDoor.Sga Go.Proofs.YtdambnclbpipdaaGreatDoor.Sgb Go.Proofs.YtdambnclbpipdaaGreatDoor.Sgc Go.Proofs.YtdambnclbpipdaaGreatDoor.Sgd
theorem lenF_txt (l : List Int) : lenF (txt l) = (nrm l).length := by
  unfold lenF txt Ot.rns
  rw [Ot.bytes_str _ (enc_byte _), Bk.full_ful]
  rw [Bk.ful_enc, List.length_map]
theorem flat_flat (l : List Int) (hl : ∀ x ∈ l, I32 x) : flat (flat l) = flat l := flat_id _ (fun y hy => (flat_bot l hl y hy).1)
theorem txt_flat (l : List Int) (hl : ∀ x ∈ l, I32 x) : txt (flat l) = txt l := by
  unfold txt nrm
  rw [flat_flat l hl]
theorem flat_ne (l : List Int) (h : l ≠ []) : flat l ≠ [] := by
  cases l with
  | nil => exact absurd rfl h
  | cons x t =>
    rw [flat_cons]
    intro e
    exact Ve.decF_ne 4 x (List.append_eq_nil_iff.1 e).1
def cutR : List SP → List Int → Int → Int → List SG
  | [], rs, a, e => [⟨txt rs, a, e⟩]
  | p :: t, rs, a, e => if opn p.f0 = true then ⟨txt rs, a, e⟩ :: cutR t [p.f0] p.f1 (p.f1 + p.f2) else cutR t (rs ++ [p.f0]) a (p.f1 + p.f2)
def cutS : List SP → List SG
  | [] => []
  | p :: t => cutR t [p.f0] p.f1 (p.f1 + p.f2)
def goodS (lim : Int) : List SG → List SG × Bool
  | [] => ([], false)
  | s :: l => if lim < (lenF s.f0 : Int) then ([], true) else (s :: (goodS lim l).1, (goodS lim l).2)
theorem long_first (lim : Int) : ∀ (t : List SP) (rs : List Int) (a e : Int), lim < ((flat rs).length : Int) → goodS lim (cutR t rs a e) = ([], true)
  | [], rs, a, e, h => by
    rw [cutR, goodS, if_pos (by rw [lenF_txt, nrm_len]; exact h)]
  | p :: t, rs, a, e, h => by
    rw [cutR]
    split
    · rw [goodS, if_pos (by rw [lenF_txt, nrm_len]; exact h)]
    · refine long_first lim t _ _ _ ?_
      rw [flat_app, List.length_append]
      omega
theorem tk_cut (lim : Int) : ∀ (t : List SP) (rs : List Int) (a e : Int), rs ≠ [] → (∀ x ∈ rs, I32 x) → (∀ p ∈ t, fine p) → ((flat rs).length : Int) ≤ lim →
    goodS lim (cutR t rs a e) = (fin (tk lim t (flat rs) a e), (tk lim t (flat rs) a e).2.2.2.2)
  | [], rs, a, e, hne, hrs, _, hl => by
    have h1 : (flat rs).isEmpty = false := by
      cases h : flat rs with
      | nil => exact absurd h (flat_ne rs hne)
      | cons x t => rfl
    rw [cutR, goodS, if_neg (by rw [lenF_txt, nrm_len]; omega), goodS]
    simp [tk, fin, h1, txt_flat rs hrs]
  | p :: t, rs, a, e, hne, hrs, hf, hl => by
    have h1 : (flat rs).isEmpty = false := by
      cases h : flat rs with
      | nil => exact absurd h (flat_ne rs hne)
      | cons x t => rfl
    have hp := hf p (List.mem_cons_self ..)
    have ht := fun q hq => hf q (List.mem_cons_of_mem _ hq)
    have hfl : flushB (flat rs) p.f0 = opn p.f0 := by unfold flushB; rw [h1]; rfl
    have e1 : flat [p.f0] = decU p.f0 := by simp [flat]
    rw [cutR, tk, hfl, txt_flat rs hrs]
    by_cases ho : opn p.f0 = true
    · rw [if_pos ho, if_pos ho, goodS, if_neg (by rw [lenF_txt, nrm_len]; omega)]
      by_cases hlm : lim < ((decU p.f0).length : Int)
      · rw [if_pos hlm, long_first lim t [p.f0] _ _ (by rw [e1]; exact hlm)]
        rfl
      · rw [if_neg hlm]
        have ih := tk_cut lim t [p.f0] p.f1 (p.f1 + p.f2) (by simp) (by intro x hx; rw [List.mem_singleton.1 hx]; exact hp.1) ht (by rw [e1]; omega)
        rw [e1] at ih
        rw [ih]
        have := fin_cat [⟨txt rs, a, e⟩] (tk lim t (decU p.f0) p.f1 (p.f1 + p.f2))
        unfold catT at this
        simp only [List.singleton_append] at this
        rw [this]
    · rw [if_neg ho, if_neg ho]
      have e2 : flat (rs ++ [p.f0]) = flat rs ++ decU p.f0 := by rw [flat_app, e1]
      by_cases hlm : lim < ((flat rs ++ decU p.f0).length : Int)
      · rw [if_pos hlm, long_first lim t _ _ _ (by rw [e2]; exact hlm)]
        rfl
      · rw [if_neg hlm]
        have ih := tk_cut lim t (rs ++ [p.f0]) a (p.f1 + p.f2) (by simp) (by intro x hx; rcases List.mem_append.1 hx with h | h; (· exact hrs x h); (· rw [List.mem_singleton.1 h]; exact hp.1)) ht (by rw [e2]; omega)
        rw [e2] at ih
        exact ih
theorem tk_cutS (lim : Int) (ps : List SP) (hf : ∀ p ∈ ps, fine p) (h0 : ∀ p t, ps = p :: t → p.f1 = 0) :
    goodS lim (cutS ps) = (fin (tk lim ps [] 0 0), (tk lim ps [] 0 0).2.2.2.2) := by
  cases ps with
  | nil => rfl
  | cons p t =>
    have hp := hf p (List.mem_cons_self ..)
    have ht := fun q hq => hf q (List.mem_cons_of_mem _ hq)
    have hz := h0 p t rfl
    have e1 : flat [p.f0] = decU p.f0 := by simp [flat]
    rw [cutS, tk, show flushB [] p.f0 = false from rfl, if_neg (by decide), List.nil_append]
    by_cases hlm : lim < ((decU p.f0).length : Int)
    · rw [if_pos hlm, long_first lim t _ _ _ (by rw [e1]; exact hlm)]
      rfl
    · rw [if_neg hlm]
      have ih := tk_cut lim t [p.f0] p.f1 (p.f1 + p.f2) (by simp) (by intro x hx; rw [List.mem_singleton.1 hx]; exact hp.1) ht (by rw [e1]; omega)
      rw [e1] at ih
      rw [ih, hz]
theorem full_fine (b : List Int) (hB : Bytes b) (hl : b.length ≤ 100000000) : ∀ p ∈ full b, fine p := by
  have hdl := Ux.dc_len b 0
  intro p hp
  rcases List.mem_append.1 hp with h | h
  · exact dec_fine b.length b 0 hB (Int.le_refl _) (by omega) p h
  · exact rest_fine _ _ (by omega) (by omega) p h
theorem full_at0 (b : List Int) : ∀ p t, full b = p :: t → p.f1 = 0 := by
  intro p t h
  cases b with
  | nil => cases h
  | cons c r =>
    rw [Bk.full_ful, Bk.ful_cons] at h
    rw [← (List.cons.inj h).1]
theorem split_cut (lim : Int) (b : List Int) (hB : Bytes b) (hl : b.length ≤ 100000000) (h1 : 1 ≤ lim) (h2 : lim ≤ 64) : splitF lim b = ((goodS lim (cutS (full b))).1, errOf (goodS lim (cutS (full b))).2) := by
  rw [tk_cutS lim (full b) (full_fine b hB hl) (full_at0 b)]
  exact if_neg (by omega)
end Go.Proofs.YtdambnclbpipdaaGreatDoor.Sgp
namespace Go.Proofs.YtdambnclbpipdaaGreatDoor.Scw
set_option linter.unusedVariables false
set_option linter.unusedSimpArgs false
open Go.RowKit Go.Proofs.YtdambnclbpipdaaGreatDoorW.PrintWords Go.Proofs.YtdambnclbpipdaaGreatDoor.Sgb Go.Proofs.YtdambnclbpipdaaGreatDoor.Vp0
instance decFine : DecidablePred fine := fun p => by unfold fine I32; infer_instance
end Go.Proofs.YtdambnclbpipdaaGreatDoor.Scw
namespace Go.Proofs.YtdambnclbpipdaaGreatDoor.X
set_option linter.unusedVariables false
set_option linter.unusedSimpArgs false
open Go.RowKit Go.Proofs.YtdambnclbpipdaaGreatDoorW.PrintWords
open Go.Proofs.YtdambnclbpipdaaGreatDoor.Scw (decFine)
end Go.Proofs.YtdambnclbpipdaaGreatDoor.X
namespace Go.Proofs.YtdambnclbpipdaaGreatDoor.Sgq
set_option linter.unusedVariables false
set_option linter.unusedSimpArgs false
open Go.Proofs.YtdambnclbpipdaaGreatDoor.Vd (decU)
open Go.Proofs.YtdambnclbpipdaaGreatDoor.Ve (opn)
open Go.Proofs.YtdambnclbpipdaaGreatDoor.Ux (Bytes one1 dc rest1 full dec)
open Go.Proofs.YtdambnclbpipdaaGreatDoor.En (enc fixr enc_byte enc_len)
open Go.RowKit Go.Proofs.YtdambnclbpipdaaGreatDoorW.PrintWords Go.Proofs.YtdambnclbpipdaaGreatDoor.Ev0 Go.Proofs.YtdambnclbpipdaaGreatDoor.X Go.Proofs.YtdambnclbpipdaaGreatDoor.Oa Go.Proofs.YtdambnclbpipdaaGreatDoor.Ob Go.Proofs.YtdambnclbpipdaaGreatDoor.Vp0 Go.Proofs.YtdambnclbpipdaaGreatDoor.Vu Go.Proofs.YtdambnclbpipdaaGreatDoor.Sga Go.Proofs.YtdambnclbpipdaaGreatDoor.Sgb Go.Proofs.YtdambnclbpipdaaGreatDoor.Sgc Go.Proofs.YtdambnclbpipdaaGreatDoor.Sgd Go.Proofs.YtdambnclbpipdaaGreatDoor.Sgp
theorem rdG {l : List SG} {i : Nat} (h : i < l.length) : rd_T154 l (i : Int) = l[i] := by unfold rd_T154; simp [List.getD_eq_getElem?_getD, List.getElem?_eq_getElem h]
theorem txt_size (rs : List Int) (h1 : ∀ x ∈ rs, I32 x) : (txt rs).size ≤ 12 * rs.length := by
  have := nrm_len3 rs h1
  have h := (enc_len (nrm rs)).2
  have e1 : (txt rs).size = (enc (nrm rs)).length := by unfold txt; rw [← bytesOf_length, Ot.bytes_str _ (enc_byte _)]
  rw [e1]
  omega
theorem cutR_size : ∀ (t : List SP) (rs : List Int) (a e : Int), (∀ x ∈ rs, I32 x) → (∀ p ∈ t, fine p) → rs.length + t.length ≤ 80000000 → (∀ s ∈ cutR t rs a e, s.f0.size ≤ 1000000000) ∧ (cutR t rs a e).length ≤ t.length + 1
  | [], rs, a, e, h1, _, h3 => by
    refine ⟨fun s hs => ?_, by simp [cutR]⟩
    rw [cutR, List.mem_singleton] at hs
    rw [hs]
    have h0 := txt_size rs h1
    simp only [List.length_nil] at h3
    show (txt rs).size ≤ _
    omega
  | p :: t, rs, a, e, h1, h2, h3 => by
    have hp := h2 p (List.mem_cons_self ..)
    have ht := fun q hq => h2 q (List.mem_cons_of_mem _ hq)
    rw [List.length_cons] at h3
    rw [cutR]
    split
    · have ih := cutR_size t [p.f0] p.f1 (p.f1 + p.f2) (by intro x hx; rw [List.mem_singleton.1 hx]; exact hp.1) ht (by simp; omega)
      have h0 := txt_size rs h1
      refine ⟨fun s hs => ?_, by simp only [List.length_cons]; omega⟩
      rcases List.mem_cons.1 hs with rfl | hs
      · show (txt rs).size ≤ _
        omega
      · exact ih.1 s hs
    · have ih := cutR_size t (rs ++ [p.f0]) a (p.f1 + p.f2) (by intro x hx; rcases List.mem_append.1 hx with h | h; (· exact h1 x h); (· rw [List.mem_singleton.1 h]; exact hp.1)) ht (by rw [List.length_append, List.length_singleton]; omega)
      exact ⟨ih.1, by simp only [List.length_cons]; omega⟩
theorem cutS_size (ps : List SP) (hf : ∀ p ∈ ps, fine p) (hl : ps.length ≤ 80000000) : (∀ s ∈ cutS ps, s.f0.size ≤ 1000000000) ∧ (cutS ps).length ≤ ps.length := by
  cases ps with
  | nil => exact ⟨by simp [cutS], by simp [cutS]⟩
  | cons p t =>
    have hp := hf p (List.mem_cons_self ..)
    rw [List.length_cons] at hl ⊢
    exact cutR_size t [p.f0] p.f1 (p.f1 + p.f2) (by intro x hx; rw [List.mem_singleton.1 hx]; exact hp.1) (fun q hq => hf q (List.mem_cons_of_mem _ hq)) (by simp; omega)
end Go.Proofs.YtdambnclbpipdaaGreatDoor.Sgq
namespace Go.Proofs.YtdambnclbpipdaaGreatDoor.Sgf
set_option linter.unusedVariables false
set_option linter.unusedSimpArgs false
open Go.Proofs.YtdambnclbpipdaaGreatDoor.Fr (K3 T3)
open Go.Proofs.YtdambnclbpipdaaGreatDoor.Ux (Bytes one1 dc rest1 full dec)
open Go.Proofs.YtdambnclbpipdaaGreatDoor.Dc (decT)
open Go.RowKit Go.Proofs.YtdambnclbpipdaaGreatDoorW.PrintWords Go.Proofs.YtdambnclbpipdaaGreatDoor.Hp Go.Proofs.YtdambnclbpipdaaGreatDoor.Fm Go.Proofs.YtdambnclbpipdaaGreatDoor.X Go.Proofs.YtdambnclbpipdaaGreatDoor.Va Go.Proofs.YtdambnclbpipdaaGreatDoor.Oa Go.Proofs.YtdambnclbpipdaaGreatDoor.Vp0 Go.Proofs.YtdambnclbpipdaaGreatDoor.Cn Go.Proofs.YtdambnclbpipdaaGreatDoor.Sga Go.Proofs.YtdambnclbpipdaaGreatDoor.Sgb Go.Proofs.YtdambnclbpipdaaGreatDoor.Sgc Go.Proofs.YtdambnclbpipdaaGreatDoor.Sgd
section
variable {w0 w w' : World} {L M : List Th}
theorem litB (W : World) (cs : Array Value) (fr : Nat × Nat) (xs : List Int) (hc : cs.toList = nums .u8 xs) (hm : xs.length ≤ 9223372036854775807) : KB.C (W.alloc (.cells cs 5 fr)) (some ⟨W.heap.size, 0, none⟩) xs.length xs :=
  rdC (lit_reads (k := .u8) (heap_alloc_new W _) hc hm)
end
def g1 : SG := ⟨⟨#[101, 204, 129]⟩, 0, 3⟩
def g2 : SG := ⟨⟨#[120]⟩, 3, 4⟩
def g3 : SG := ⟨⟨#[120]⟩, 0, 1⟩
theorem d1 : dc ([] ++ [101]) 0 = ([⟨101, 0, 1⟩], [], 1) := by kernel_rfl
theorem t1 : tk 8 [⟨101, 0, 1⟩] [] 0 0 = ([], [101], 0, 1, false) := by kernel_rfl
theorem d2 : dc ([] ++ [204]) 1 = ([], [204], 1) := by kernel_rfl
theorem t2 : tk 8 [] [101] 0 1 = ([], [101], 0, 1, false) := rfl
theorem d3 : dc ([204] ++ [129, 120]) 1 = ([⟨769, 1, 2⟩, ⟨120, 3, 1⟩], [], 4) := by kernel_rfl
theorem t3 : tk 8 [⟨769, 1, 2⟩, ⟨120, 3, 1⟩] [101] 0 1 = ([g1], [120], 3, 4, false) := by kernel_rfl
theorem t4 : tk 8 (rest1 [] 4) [120] 3 4 = ([], [120], 3, 4, false) := rfl
theorem f4 : fin ([], [120], 3, 4, false) = [g2] := by kernel_rfl
end Go.Proofs.YtdambnclbpipdaaGreatDoor.Sgf
namespace Go.Proofs.YtdambnclbpipdaaGreatDoor.X
set_option linter.unusedVariables false
set_option linter.unusedSimpArgs false
open Go.RowKit Go.Proofs.YtdambnclbpipdaaGreatDoorW.PrintWords
end Go.Proofs.YtdambnclbpipdaaGreatDoor.X
namespace Go.Proofs.YtdambnclbpipdaaGreatDoor.Sgr
set_option linter.unusedVariables false
set_option linter.unusedSimpArgs false
open Go.Proofs.YtdambnclbpipdaaGreatDoor.Ux (Bytes one1 dc rest1 full dec)
open Go.RowKit Go.Proofs.YtdambnclbpipdaaGreatDoorW.PrintWords Go.Proofs.YtdambnclbpipdaaGreatDoor.Ev0 Go.Proofs.YtdambnclbpipdaaGreatDoor.X Go.Proofs.YtdambnclbpipdaaGreatDoor.Oa Go.Proofs.YtdambnclbpipdaaGreatDoor.Ob Go.Proofs.YtdambnclbpipdaaGreatDoor.Vp0 Go.Proofs.YtdambnclbpipdaaGreatDoor.Vu Go.Proofs.YtdambnclbpipdaaGreatDoor.Sga Go.Proofs.YtdambnclbpipdaaGreatDoor.Sgb Go.Proofs.YtdambnclbpipdaaGreatDoor.Sgc Go.Proofs.YtdambnclbpipdaaGreatDoor.Sgd Go.Proofs.YtdambnclbpipdaaGreatDoor.Sgp Go.Proofs.YtdambnclbpipdaaGreatDoor.Sgq
theorem fsize (b : List Int) (hB : Bytes b) (hl : b.length ≤ 10000000) : (∀ s ∈ cutS (full b), s.f0.size ≤ 1000000000) ∧ (cutS (full b)).length ≤ b.length := by
  have hfl := Ud.full_len b
  have h := cutS_size (full b) (full_fine b hB (by omega)) (by omega)
  exact ⟨h.1, by omega⟩
theorem ba_loop (b : ByteArray) : ∀ (q i : Nat) (r : List UInt8), i + q = b.size → ByteArray.toList.loop b i r = r.reverse ++ b.data.toList.drop i := by
  intro q
  induction q with
  | zero =>
    intro i r h
    rw [ByteArray.toList.loop]
    rw [if_neg (by omega), List.drop_eq_nil_of_le (by rw [Array.length_toList]; show b.size ≤ i; omega), List.append_nil]
  | succ q ih =>
    intro i r h
    have hi : i < b.data.toList.length := by rw [Array.length_toList]; show i < b.size; omega
    rw [ByteArray.toList.loop, if_pos (by omega), ih (i + 1) _ (by omega), List.drop_eq_getElem_cons hi]
    have e : b.get! i = b.data.toList[i] := by
      rw [Array.getElem_toList]
      show b.data[i]! = _
      exact getElem!_pos b.data i _
    rw [e]
    simp
theorem ba_data (b : ByteArray) : b.toList = b.data.toList := by
  unfold ByteArray.toList
  rw [ba_loop b b.size 0 [] (by omega)]
  simp
theorem ba_list (a b : ByteArray) : a.toList = b.toList ↔ a = b := by
  rw [ba_data, ba_data]
  constructor
  · intro h
    cases a
    cases b
    exact congrArg ByteArray.mk (Array.toList_inj.1 h)
  · intro h
    rw [h]
theorem bytesB_mk {l : List Int} (h : Bytes l) : bytesB l = true := by
  unfold bytesB
  rw [List.all_eq_true]
  intro x hx
  have := h x hx
  simp
  omega
end Go.Proofs.YtdambnclbpipdaaGreatDoor.Sgr
namespace Go.Proofs.YtdambnclbpipdaaGreatDoor.Oqe
set_option linter.unusedVariables false
set_option linter.unusedSimpArgs false
open Go.Proofs.YtdambnclbpipdaaGreatDoor.Vd (decU)
open Go.RowKit Go.Proofs.YtdambnclbpipdaaGreatDoorW.PrintWords Go.Proofs.YtdambnclbpipdaaGreatDoor.Ev0 Go.Proofs.YtdambnclbpipdaaGreatDoor.X Go.Proofs.YtdambnclbpipdaaGreatDoor.Va Go.Proofs.YtdambnclbpipdaaGreatDoor.Ve Go.Proofs.YtdambnclbpipdaaGreatDoor.Vp0 Go.Proofs.YtdambnclbpipdaaGreatDoor.Vu Go.Proofs.YtdambnclbpipdaaGreatDoor.Na Go.Proofs.YtdambnclbpipdaaGreatDoor.Oa Go.Proofs.YtdambnclbpipdaaGreatDoor.Ob
theorem nrm_cut (a b : List Int) (hb : b = [] ∨ ∃ z t, flat b = z :: t ∧ cls z = 0) : nrm (a ++ b) = nrm a ++ nrm b := by
  unfold nrm
  rw [flat_app]
  refine ordL_cut _ _ ?_
  rcases hb with rfl | ⟨z, t, h, hz⟩
  · exact .inl rfl
  · exact .inr ⟨z, t, h, hz⟩
theorem opens_cut (l : List Int) (n : Nat) (hn : n < l.length) (ho : opn l[n] = true) : nrm l = nrm (l.take n) ++ nrm (l.drop n) := by
  have h := nrm_cut (l.take n) (l.drop n) (.inr ?_)
  · rwa [List.take_append_drop] at h
  · rw [List.drop_eq_getElem_cons hn, flat_cons]
    have hne := Ve.decF_ne 4 l[n]
    unfold opn at ho
    have h0 : cls ((decU l[n]).getD 0 0) = 0 := by simpa using (Bool.and_eq_true_iff.1 ho).1
    have e : decU l[n] = Vd.decF 4 l[n] := rfl
    rw [← e] at hne
    match hd : decU l[n], hne with
    | z :: t, _ =>
      rw [hd] at h0
      exact ⟨z, t ++ flat (l.drop (n + 1)), by simp, by simpa using h0⟩
end Go.Proofs.YtdambnclbpipdaaGreatDoor.Oqe
namespace Go.Proofs.YtdambnclbpipdaaGreatDoor.Sgt
set_option linter.unusedVariables false
set_option linter.unusedSimpArgs false
open Go.Proofs.YtdambnclbpipdaaGreatDoor.Ux (Bytes one1 bnd st cont dc dc_cons dc_nil dc_ind dc_rest dc_len rest1 full dec one1_width bnd_len one1_more)
open Go.Proofs.YtdambnclbpipdaaGreatDoor.Ve (opn)
open Go.Proofs.YtdambnclbpipdaaGreatDoor.Bk (ful ful_nil ful_cons full_ful)
open Go.Proofs.YtdambnclbpipdaaGreatDoor.En (enc enc_len enc_byte)
open Go.Proofs.YtdambnclbpipdaaGreatDoor.Ot (rns)
open Go.RowKit Go.Proofs.YtdambnclbpipdaaGreatDoorW.PrintWords Go.Proofs.YtdambnclbpipdaaGreatDoor.Ev0 Go.Proofs.YtdambnclbpipdaaGreatDoor.X Go.Proofs.YtdambnclbpipdaaGreatDoor.Oa Go.Proofs.YtdambnclbpipdaaGreatDoor.Ob Go.Proofs.YtdambnclbpipdaaGreatDoor.Vp0 Go.Proofs.YtdambnclbpipdaaGreatDoor.Vu Go.Proofs.YtdambnclbpipdaaGreatDoor.Sga Go.Proofs.YtdambnclbpipdaaGreatDoor.Sgb Go.Proofs.YtdambnclbpipdaaGreatDoor.Sgc Go.Proofs.YtdambnclbpipdaaGreatDoor.Sgd Go.Proofs.YtdambnclbpipdaaGreatDoor.Sgp Go.Proofs.YtdambnclbpipdaaGreatDoor.Sgq Go.Proofs.YtdambnclbpipdaaGreatDoor.Sgr
theorem ful_pos : ∀ (N : Nat) (b : List Int) (p q : Int), b.length ≤ N → (ful b p).map (·.f0) = (ful b q).map (·.f0)
  | _, [], p, q, _ => by rw [ful_nil, ful_nil]
  | 0, c :: t, p, q, h => by simp at h
  | N + 1, c :: t, p, q, h => by
    rw [ful_cons, ful_cons, List.map_cons, List.map_cons]
    have := Ux.drop_lt c t
    rw [ful_pos N _ _ (q + (one1 c t).2.1) (by simp only [List.length_cons] at h; omega)]
theorem rns_ful (b : List Int) (p : Int) : (ful b p).map (·.f0) = rns b := ful_pos b.length b p 0 (Nat.le_refl _)
theorem rns_nil : rns [] = [] := by rw [← rns_ful [] 0, ful_nil]; rfl
theorem rns_cons (c : Int) (t : List Int) : rns (c :: t) = (one1 c t).1 :: rns ((c :: t).drop (one1 c t).2.1.toNat) := by
  rw [← rns_ful _ 0, ful_cons, List.map_cons, rns_ful]
def Inv (b : List Int) (a e : Nat) (rs : List Int) : Prop := ∀ m, e ≤ m → rns ((b.take m).drop a) = rs ++ rns ((b.take m).drop e)
def cutT : List Int → List Int → List ByteArray
  | [], rs => [txt rs]
  | x :: t, rs => if opn x = true then txt rs :: cutT t [x] else cutT t (rs ++ [x])
def cutTS : List Int → List ByteArray
  | [] => []
  | x :: t => cutT t [x]
theorem cutR_txt : ∀ (t : List SP) (rs : List Int) (a e : Int), (cutR t rs a e).map (·.f0) = cutT (t.map (·.f0)) rs
  | [], rs, a, e => rfl
  | p :: t, rs, a, e => by
    rw [cutR, List.map_cons, cutT]
    split
    · rw [List.map_cons, cutR_txt t]
    · rw [cutR_txt t]
theorem cutT_app : ∀ (t u : List Int) (rs : List Int) (x : Int), opn x = true → cutT (t ++ x :: u) rs = cutT t rs ++ cutT u [x]
  | [], u, rs, x, h => by rw [List.nil_append]; show (if opn x = true then txt rs :: cutT u [x] else cutT u (rs ++ [x])) = _; rw [if_pos h]; rfl
  | y :: t, u, rs, x, h => by
    rw [List.cons_append, cutT, cutT]
    split
    · rw [cutT_app t u _ x h]; rfl
    · rw [cutT_app t u _ x h]
theorem cutTS_app (r s : List Int) (h : ∀ x t, s = x :: t → opn x = true) : cutTS (r ++ s) = cutTS r ++ cutTS s := by
  cases s with
  | nil => simp [cutTS]
  | cons x u =>
    cases r with
    | nil => rfl
    | cons y t => exact cutT_app t u [y] x (h x u rfl)
end Go.Proofs.YtdambnclbpipdaaGreatDoor.Sgt
namespace Go.Proofs.YtdambnclbpipdaaGreatDoor.Sgu
set_option linter.unusedVariables false
set_option linter.unusedSimpArgs false
open Go.Proofs.YtdambnclbpipdaaGreatDoor.Ux (Bytes)
open Go.Proofs.YtdambnclbpipdaaGreatDoor.Ve (opn)
open Go.Proofs.YtdambnclbpipdaaGreatDoor.Ot (rns)
open Go.RowKit Go.Proofs.YtdambnclbpipdaaGreatDoorW.PrintWords Go.Proofs.YtdambnclbpipdaaGreatDoor.Ev0 Go.Proofs.YtdambnclbpipdaaGreatDoor.X Go.Proofs.YtdambnclbpipdaaGreatDoor.Oa Go.Proofs.YtdambnclbpipdaaGreatDoor.Ob Go.Proofs.YtdambnclbpipdaaGreatDoor.Vp0 Go.Proofs.YtdambnclbpipdaaGreatDoor.Vu Go.Proofs.YtdambnclbpipdaaGreatDoor.Sgd Go.Proofs.YtdambnclbpipdaaGreatDoor.Sgt
theorem rns_len (b : List Int) : (rns b).length ≤ b.length := by unfold rns; rw [List.length_map]; exact Ud.full_len b
end Go.Proofs.YtdambnclbpipdaaGreatDoor.Sgu
namespace Go.Proofs.YtdambnclbpipdaaGreatDoor.Sgv
set_option linter.unusedVariables false
set_option linter.unusedSimpArgs false
open Go.Proofs.YtdambnclbpipdaaGreatDoor.Ux (Bytes full)
open Go.Proofs.YtdambnclbpipdaaGreatDoor.Ve (opn)
open Go.Proofs.YtdambnclbpipdaaGreatDoor.Ot (rns)
open Go.Proofs.YtdambnclbpipdaaGreatDoor.En (enc enc_len enc_byte enc_append)
open Go.RowKit Go.Proofs.YtdambnclbpipdaaGreatDoorW.PrintWords Go.Proofs.YtdambnclbpipdaaGreatDoor.Ev0 Go.Proofs.YtdambnclbpipdaaGreatDoor.X Go.Proofs.YtdambnclbpipdaaGreatDoor.Oa Go.Proofs.YtdambnclbpipdaaGreatDoor.Ob Go.Proofs.YtdambnclbpipdaaGreatDoor.Vp0 Go.Proofs.YtdambnclbpipdaaGreatDoor.Vu Go.Proofs.YtdambnclbpipdaaGreatDoor.Sga Go.Proofs.YtdambnclbpipdaaGreatDoor.Sgb Go.Proofs.YtdambnclbpipdaaGreatDoor.Sgd Go.Proofs.YtdambnclbpipdaaGreatDoor.Sgp Go.Proofs.YtdambnclbpipdaaGreatDoor.Sgq Go.Proofs.YtdambnclbpipdaaGreatDoor.Sgt Go.Proofs.YtdambnclbpipdaaGreatDoor.Sgu
def catB : List ByteArray → ByteArray
  | [] => ⟨#[]⟩
  | x :: t => x ++ catB t
theorem ba_ext {a b : ByteArray} (h : a.data.toList = b.data.toList) : a = b := by
  cases a
  cases b
  exact congrArg ByteArray.mk (Array.toList_inj.1 h)
theorem ba_app (a b : ByteArray) : (a ++ b).data.toList = a.data.toList ++ b.data.toList := by
  rw [ByteArray.data_append, Array.toList_append]
theorem str_app (a b : List Int) : strOfNums (a ++ b) = strOfNums a ++ strOfNums b := by
  refine ba_ext ?_
  rw [ba_app, strOfNums_data, strOfNums_data, strOfNums_data, List.map_append]
theorem txt_app (a b : List Int) (x : Int) (t : List Int) (hb : b = x :: t) (ho : opn x = true) : txt (a ++ b) = txt a ++ txt b := by
  have h := Oqe.opens_cut (a ++ b) a.length (by rw [hb, List.length_append, List.length_cons]; omega) (by rw [List.getElem_append_right (Nat.le_refl _)]; simp [hb, ho])
  rw [List.take_left, List.drop_left] at h
  unfold txt
  rw [h, enc_append, str_app]
theorem cutT_cat : ∀ (t rs : List Int), catB (cutT t rs) = txt (rs ++ t)
  | [], rs => by
    rw [List.append_nil]
    refine ba_ext ?_
    show (txt rs ++ (⟨#[]⟩ : ByteArray)).data.toList = _
    rw [ba_app]
    simp
  | x :: t, rs => by
    rw [cutT]
    split
    · rename_i h
      show txt rs ++ catB (cutT t [x]) = _
      rw [cutT_cat t [x], txt_app rs (x :: t) x t rfl h]
      rfl
    · rw [cutT_cat t (rs ++ [x]), List.append_assoc]
      rfl
theorem cutTS_cat (r : List Int) : catB (cutTS r) = txt r := by
  cases r with
  | nil => rfl
  | cons x t => exact cutT_cat t [x]
end Go.Proofs.YtdambnclbpipdaaGreatDoor.Sgv
namespace Go.Proofs.YtdambnclbpipdaaGreatDoor.Bkg
set_option linter.unusedVariables false
set_option linter.unusedSimpArgs false
open Go.RowKit Go.Proofs.YtdambnclbpipdaaGreatDoorW.PrintWords Go.Proofs.YtdambnclbpipdaaGreatDoor.Hp Go.Proofs.YtdambnclbpipdaaGreatDoor.Ux Go.Proofs.YtdambnclbpipdaaGreatDoor.En Go.Proofs.YtdambnclbpipdaaGreatDoor.Rt Go.Proofs.YtdambnclbpipdaaGreatDoor.X
theorem vld_bad : vld 65533 = true := by decide
theorem one1_good (c : Int) (t : List Int) (hc : 0 ≤ c ∧ c ≤ 255) (hB : Bytes t) : vld (one1 c t).1 = true ∧ ((one1 c t).1 ≠ 65533 → encv (one1 c t).1 = (c :: t).take (one1 c t).2.1.toNat) := by
  unfold one1 bnd st
  by_cases h1 : c < 128
  · rw [if_pos h1, if_pos h1]
    simp only [cont]
    refine ⟨by simp only [vld, decide_eq_true_eq]; omega, fun _ => ?_⟩
    unfold encv
    rw [if_pos h1]; rfl
  · rw [if_neg h1, if_neg h1]
    by_cases h2 : c < 194 ∨ 244 < c
    · rw [if_pos h2]
      exact ⟨vld_bad, fun h => absurd rfl h⟩
    · rw [if_neg h2]
      by_cases h3 : c < 224
      · rw [if_pos h3, if_pos h3]
        cases t with
        | nil => exact ⟨vld_bad, fun h => absurd rfl h⟩
        | cons x t =>
          simp only [cont]
          by_cases hx : x < 128 ∨ 191 < x
          · rw [if_pos hx]; exact ⟨vld_bad, fun h => absurd rfl h⟩
          · rw [if_neg hx]
            simp only
            refine ⟨by simp only [vld, decide_eq_true_eq]; omega, fun _ => ?_⟩
            unfold encv
            rw [if_neg (by omega), if_pos (by omega)]
            show _ = [c, x]
            congr 1
            · omega
            · congr 1; omega
      · rw [if_neg h3, if_neg h3]
        by_cases h4 : c < 240
        · rw [if_pos h4, if_pos h4]
          cases t with
          | nil => exact ⟨vld_bad, fun h => absurd rfl h⟩
          | cons x t =>
            simp only [cont]
            by_cases hx : x < (if c = 224 then 160 else 128) ∨ (if c = 237 then 159 else 191) < x
            · rw [if_pos hx]; exact ⟨vld_bad, fun h => absurd rfl h⟩
            · rw [if_neg hx]
              cases t with
              | nil => exact ⟨vld_bad, fun h => absurd rfl h⟩
              | cons y t =>
                simp only [cont]
                by_cases hy : y < 128 ∨ 191 < y
                · rw [if_pos hy]; exact ⟨vld_bad, fun h => absurd rfl h⟩
                · rw [if_neg hy]
                  simp only
                  have hx' : (c = 224 → 160 ≤ x) ∧ (c = 237 → x ≤ 159) ∧ 128 ≤ x ∧ x ≤ 191 := by
                    refine ⟨fun h => ?_, fun h => ?_, ?_, ?_⟩
                    · rw [if_pos h] at hx; omega
                    · rw [if_pos h] at hx; omega
                    · split at hx <;> omega
                    · split at hx <;> split at hx <;> omega
                  clear hx
                  refine ⟨by simp only [vld, decide_eq_true_eq]; omega, fun _ => ?_⟩
                  unfold encv
                  rw [if_neg (by omega), if_neg (by omega), if_pos (by omega)]
                  show _ = [c, x, y]
                  congr 1
                  · omega
                  · congr 1
                    · omega
                    · congr 1; omega
        · rw [if_neg h4, if_neg h4]
          cases t with
          | nil => exact ⟨vld_bad, fun h => absurd rfl h⟩
          | cons x t =>
            simp only [cont]
            by_cases hx : x < (if c = 240 then 144 else 128) ∨ (if c = 244 then 143 else 191) < x
            · rw [if_pos hx]; exact ⟨vld_bad, fun h => absurd rfl h⟩
            · rw [if_neg hx]
              cases t with
              | nil => exact ⟨vld_bad, fun h => absurd rfl h⟩
              | cons y t =>
                simp only [cont]
                by_cases hy : y < 128 ∨ 191 < y
                · rw [if_pos hy]; exact ⟨vld_bad, fun h => absurd rfl h⟩
                · rw [if_neg hy]
                  cases t with
                  | nil => exact ⟨vld_bad, fun h => absurd rfl h⟩
                  | cons z t =>
                    simp only [cont]
                    by_cases hz : z < 128 ∨ 191 < z
                    · rw [if_pos hz]; exact ⟨vld_bad, fun h => absurd rfl h⟩
                    · rw [if_neg hz]
                      simp only
                      have hx' : (c = 240 → 144 ≤ x) ∧ (c = 244 → x ≤ 143) ∧ 128 ≤ x ∧ x ≤ 191 := by
                        refine ⟨fun h => ?_, fun h => ?_, ?_, ?_⟩
                        · rw [if_pos h] at hx; omega
                        · rw [if_pos h] at hx; omega
                        · split at hx <;> omega
                        · split at hx <;> split at hx <;> omega
                      clear hx
                      refine ⟨by simp only [vld, decide_eq_true_eq]; omega, fun _ => ?_⟩
                      unfold encv
                      rw [if_neg (by omega), if_neg (by omega), if_neg (by omega)]
                      show _ = [c, x, y, z]
                      congr 1
                      · omega
                      · congr 1
                        · omega
                        · congr 1
                          · omega
                          · congr 1; omega
end Go.Proofs.YtdambnclbpipdaaGreatDoor.Bkg
namespace Go.Proofs.YtdambnclbpipdaaGreatDoor.Sgw
set_option linter.unusedVariables false
set_option linter.unusedSimpArgs false
open Go.Proofs.YtdambnclbpipdaaGreatDoor.Ux (Bytes full one1)
open Go.Proofs.YtdambnclbpipdaaGreatDoor.Ve (opn)
open Go.Proofs.YtdambnclbpipdaaGreatDoor.Vd (decU keys cases3)
open Go.Proofs.YtdambnclbpipdaaGreatDoor.Na (ordL ordL_mem ordL_starter)
open Go.Proofs.YtdambnclbpipdaaGreatDoor.Ot (rns)
open Go.Proofs.YtdambnclbpipdaaGreatDoor.En (enc enc_len enc_byte enc_append vld fixr)
open Go.RowKit Go.Proofs.YtdambnclbpipdaaGreatDoorW.PrintWords Go.Proofs.YtdambnclbpipdaaGreatDoor.Ev0 Go.Proofs.YtdambnclbpipdaaGreatDoor.X Go.Proofs.YtdambnclbpipdaaGreatDoor.Va Go.Proofs.YtdambnclbpipdaaGreatDoor.Oa Go.Proofs.YtdambnclbpipdaaGreatDoor.Ob Go.Proofs.YtdambnclbpipdaaGreatDoor.Vp0 Go.Proofs.YtdambnclbpipdaaGreatDoor.Vu Go.Proofs.YtdambnclbpipdaaGreatDoor.Sga Go.Proofs.YtdambnclbpipdaaGreatDoor.Sgb Go.Proofs.YtdambnclbpipdaaGreatDoor.Sgd Go.Proofs.YtdambnclbpipdaaGreatDoor.Sgp Go.Proofs.YtdambnclbpipdaaGreatDoor.Sgq Go.Proofs.YtdambnclbpipdaaGreatDoor.Sgt Go.Proofs.YtdambnclbpipdaaGreatDoor.Sgu Go.Proofs.YtdambnclbpipdaaGreatDoor.Sgv
def Shut (l : List Int) : Prop := ∀ x ∈ l, opn x = false
theorem dec_shut (r : Int) (hr : I32 r) (h : opn r = false) : Shut (decU r) := by
  have hb := bottom r hr
  have ho := opn_first r hr
  intro y hy
  cases hd : decU r with
  | nil => have := hb.lo; rw [hd] at this; simp at this
  | cons z t =>
    rw [hd] at hy ho
    rcases List.mem_cons.1 hy with rfl | hy
    · rw [← h, ← ho]; rfl
    · exact hb.shut y (by rw [hd]; exact hy)
theorem flat_shut (l : List Int) (hl : ∀ x ∈ l, I32 x) (h : Shut l) : Shut (flat l) := by
  intro y hy
  unfold flat at hy
  obtain ⟨x, hx, hy⟩ := List.mem_flatMap.1 hy
  exact dec_shut x (hl x hx) (h x hx) y hy
theorem nrm_shut (l : List Int) (hl : ∀ x ∈ l, I32 x) (h : Shut l) : Shut (nrm l) := fun y hy => flat_shut l hl h y ((ordL_mem _ _).1 hy)
theorem nrm_open (x : Int) (t : List Int) (hl : ∀ y ∈ x :: t, I32 y) (ho : opn x = true) : ∃ y u v, nrm (x :: t) = y :: ordL (u ++ v) ∧ opn y = true ∧ Shut u ∧ v = flat t := by
  have hx := hl x (List.mem_cons_self ..)
  have hb := bottom x hx
  have hf := opn_first x hx
  cases hd : decU x with
  | nil => have := hb.lo; rw [hd] at this; simp at this
  | cons z w =>
    rw [hd] at hf
    have hz : opn z = true := by rw [← ho, ← hf]; rfl
    have hpz := hb.zero z (by rw [hd]; exact List.mem_cons_self ..)
    have hc : cls z = 0 := by
      rw [opn_zero z hpz] at hz
      simpa using (Bool.and_eq_true_iff.1 hz).1
    refine ⟨z, w, flat t, ?_, hz, fun y hy => hb.shut y (by rw [hd]; exact hy), rfl⟩
    unfold nrm
    rw [flat_cons, hd]
    have h := ordL_starter [] (w ++ flat t) hc
    exact h
theorem cutT_shut : ∀ (u rs : List Int), Shut u → cutT u rs = [txt (rs ++ u)]
  | [], rs, _ => by rw [List.append_nil]; rfl
  | x :: u, rs, h => by
    rw [cutT, h x (List.mem_cons_self ..)]
    simp only [Bool.false_eq_true, if_false]
    rw [cutT_shut u _ (fun y hy => h y (List.mem_cons_of_mem _ hy)), List.append_assoc]
    rfl
theorem txt_nrm (l : List Int) (hl : ∀ x ∈ l, I32 x) : txt (nrm l) = txt l := by unfold txt; rw [nrm_id l hl]
theorem seg_nrm (x : Int) (t : List Int) (hl : ∀ y ∈ x :: t, I32 y) (h : Shut t) : cutTS (nrm (x :: t)) = [txt (x :: t)] := by
  have hne : nrm (x :: t) ≠ [] := by
    intro e
    have h1 := nrm_len (x :: t)
    rw [e] at h1
    exact flat_ne (x :: t) (by simp) (List.length_eq_zero_iff.1 h1.symm)
  have hsh : ∃ y u, nrm (x :: t) = y :: u ∧ Shut u := by
    by_cases ho : opn x = true
    · obtain ⟨y, u, v, e, _, hu, hv⟩ := nrm_open x t hl ho
      refine ⟨y, _, e, fun z hz => ?_⟩
      rcases List.mem_append.1 ((ordL_mem _ _).1 hz) with h1 | h1
      · exact hu z h1
      · rw [hv] at h1
        exact flat_shut t (fun y hy => hl y (List.mem_cons_of_mem _ hy)) h z h1
    · have ho2 : opn x = false := by simpa using ho
      have hs := nrm_shut (x :: t) hl (by intro z hz; rcases List.mem_cons.1 hz with rfl | hz; (· exact ho2); (· exact h z hz))
      cases hn : nrm (x :: t) with
      | nil => exact absurd hn hne
      | cons y u => exact ⟨y, u, rfl, fun z hz => hs z (by rw [hn]; exact List.mem_cons_of_mem _ hz)⟩
  obtain ⟨y, u, e, hu⟩ := hsh
  rw [e]
  show cutT u [y] = _
  rw [cutT_shut u [y] hu]
  show [txt (y :: u)] = _
  rw [← e, txt_nrm _ hl]
theorem cut_nrm : ∀ (t : List Int) (x : Int) (v : List Int), (∀ y ∈ (x :: v) ++ t, I32 y) → Shut v → cutTS (nrm ((x :: v) ++ t)) = cutT t (x :: v)
  | [], x, v, hl, hv => by
    rw [List.append_nil] at hl ⊢
    exact seg_nrm x v hl hv
  | z :: t, x, v, hl, hv => by
    have hl1 : ∀ y ∈ x :: v, I32 y := fun y hy => hl y (List.mem_append_left _ hy)
    have hl2 : ∀ y ∈ z :: t, I32 y := fun y hy => hl y (List.mem_append_right _ hy)
    rw [cutT]
    by_cases ho : opn z = true
    · rw [if_pos ho]
      have h := Oqe.opens_cut ((x :: v) ++ z :: t) (x :: v).length (by rw [List.length_append, List.length_cons (a := z)]; omega) (by rw [List.getElem_append_right (Nat.le_refl _)]; simp [ho])
      rw [List.take_left, List.drop_left] at h
      rw [h, cutTS_app, seg_nrm x v hl1 hv]
      · have ih := cut_nrm t z [] (by simpa using hl2) (fun _ h => by cases h)
        simp only [List.singleton_append] at ih ⊢
        rw [ih]
      · intro a b hab
        obtain ⟨y, u, w, e, hy, _⟩ := nrm_open z t hl2 ho
        rw [e] at hab
        rw [← (List.cons.inj hab).1]
        exact hy
    · have ho2 : opn z = false := by simpa using ho
      rw [if_neg ho]
      have e : (x :: v) ++ z :: t = (x :: (v ++ [z])) ++ t := by simp
      rw [e] at hl ⊢
      rw [cut_nrm t x (v ++ [z]) hl (by intro y hy; rcases List.mem_append.1 hy with h | h; (· exact hv y h); (· rw [List.mem_singleton.1 h]; exact ho2))]
      rfl
theorem cutTS_nrm (r : List Int) (hl : ∀ y ∈ r, I32 y) : cutTS (nrm r) = cutTS r := by
  cases r with
  | nil => rfl
  | cons x t => exact cut_nrm t x [] hl (fun _ h => by cases h)
theorem vld_keys : ∀ r ∈ keys, (decU r).all vld = true := by decide +kernel
theorem vld_dec (r : Int) (h : vld r = true) : ∀ y ∈ decU r, vld y = true := by
  rcases cases3 r with h1 | ⟨s, hs, rfl⟩ | h1
  · exact List.all_eq_true.1 (vld_keys r h1)
  · intro y hy
    rw [syl_dec s hs] at hy
    have h5 : y = 4352 + ((s / 588 : Nat) : Int) ∨ y = 4449 + ((s % 588 / 28 : Nat) : Int) ∨ y = 4519 + ((s % 28 : Nat) : Int) := by
      rcases List.mem_append.1 hy with h | h
      · rcases List.mem_cons.1 h with h | h
        · exact .inl h
        · exact .inr (.inl (List.mem_singleton.1 h))
      · split at h
        · cases h
        · exact .inr (.inr (List.mem_singleton.1 h))
    unfold vld
    rw [decide_eq_true_eq]
    omega
  · intro y hy
    rw [dec_zero r h1, List.mem_singleton] at hy
    rw [hy]
    exact h
theorem vld_nrm (l : List Int) (h : ∀ x ∈ l, vld x = true) : ∀ y ∈ nrm l, vld y = true := by
  intro y hy
  have hy := (ordL_mem _ _).1 hy
  unfold flat at hy
  obtain ⟨x, hx, hy⟩ := List.mem_flatMap.1 hy
  exact vld_dec x (h x hx) y hy
theorem vld_rns : ∀ (N : Nat) (b : List Int), b.length ≤ N → Bytes b → ∀ y ∈ rns b, vld y = true
  | _, [], _, _ => by rw [rns_nil]; intro y hy; cases hy
  | 0, c :: t, h, _ => by simp at h
  | N + 1, c :: t, h, hB => by
    rw [rns_cons]
    intro y hy
    rcases List.mem_cons.1 hy with rfl | hy
    · exact (Bkg.one1_good c t (hB c (List.mem_cons_self ..)) (fun x hx => hB x (List.mem_cons_of_mem _ hx))).1
    · have := Ux.drop_lt c t
      exact vld_rns N _ (by simp only [List.length_cons] at h; omega) (fun x hx => hB x (List.mem_of_mem_drop hx)) y hy
theorem rns_enc (l : List Int) (h : ∀ x ∈ l, vld x = true) : rns (enc l) = l := by
  have := Bk.ful_enc l 0
  rw [rns_ful] at this
  rw [this]
  have e : ∀ x ∈ l, fixr x = x := fun x hx => by unfold fixr; rw [if_pos (h x hx)]
  rw [List.map_congr_left (g := id) (by intro x hx; exact e x hx), List.map_id]
theorem r32 (a : List Int) (ha : Bytes a) : ∀ x ∈ rns a, I32 x := Ot.runes32 a ha
theorem key (a b : List Int) (ha : Bytes a) (hb : Bytes b) : cutTS (rns a) = cutTS (rns b) ↔ txt (rns a) = txt (rns b) := by
  constructor
  · intro h
    rw [← cutTS_cat, ← cutTS_cat, h]
  · intro h
    have h1 := Bk.str_inj (enc_byte _) (enc_byte _) h
    have va := vld_nrm _ (vld_rns a.length a (Nat.le_refl _) ha)
    have vb := vld_nrm _ (vld_rns b.length b (Nat.le_refl _) hb)
    have h2 : nrm (rns a) = nrm (rns b) := by rw [← rns_enc _ va, ← rns_enc _ vb, h1]
    rw [← cutTS_nrm _ (r32 a ha), ← cutTS_nrm _ (r32 b hb), h2]
def nfd (a : List Int) : List Int := enc (nrm (rns a))
theorem nfd_len (a : List Int) (ha : Bytes a) : (nfd a).length ≤ 12 * a.length := by
  have h1 := nrm_len3 (rns a) (Ot.runes32 a ha)
  have h2 := rns_len a
  have h3 := (enc_len (nrm (rns a))).2
  unfold nfd
  omega
theorem nfd_byte (a : List Int) : Bytes (nfd a) := enc_byte _
end Go.Proofs.YtdambnclbpipdaaGreatDoor.Sgw
