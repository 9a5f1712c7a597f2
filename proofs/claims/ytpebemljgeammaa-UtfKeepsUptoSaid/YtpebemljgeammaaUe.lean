/-
  utf.Decoder.Write on an open decoder.
-/
import Derived.Test.YtpebemljgeammaaUd
namespace Go.Proofs.Ytpebemljgeammaa.Ud
set_option linter.unusedVariables false
set_option linter.unusedSimpArgs false
open Go.RowKit Go.Proofs.YtpebemljgeammaaW.PrintWords Go.Proofs.Ytpebemljgeammaa.Hp Go.Proofs.Ytpebemljgeammaa.PUtfDecodes Go.Proofs.Ytpebemljgeammaa.Ux

def sliceLen : Value → Nat
  | .slice _ n _ => n
  | _ => 0

/-- What Write leaves: the sure points in new memory, the rest kept back behind them. -/
def WritePost (w : World) (g base : Nat) (all : List Int) (at_ : Int) (ok : Nat → Prop) (e : Ending) (w' : World) : Prop :=
  ∃ lv M, e = .returned lv ∧ w.heap.size ≤ M ∧ Kd.R k72 TP w' w.heap.size (fun b => b < M) lv (dc all at_).1 ∧ IsDec g base (dc all at_).2.1 (dc all at_).2.2 false (fun b => b = g ∨ M ≤ b) w' ∧ Chg ok w w'

/-- At a round's head. -/
def Inv (W1 : World) (g : Nat) (kv : Value) (all : List Int) (at0 : Int) (av lv : Value) (rest : List Int) (wr : World) : Prop :=
  ∃ (pts : List S72) (at_ : Int) (A : Option Addr) (c : Nat), av = .slice A rest.length c ∧ rest.length ≤ c ∧ Kd.C (Kd.int .u8) wr A rest.length rest ∧ (∀ ad, A = some ad → ad.block < W1.heap.size ∧ ad.block ≠ g) ∧
    Kd.R k72 TP wr W1.heap.size (fun _ => True) lv pts ∧ wr.heap[g]? = some (.cells #[kv, .int .i64 at_, .bool false] TD (0, 0)) ∧
    dc all at0 = (pts ++ (dc rest at_).1, (dc rest at_).2) ∧ Chg (fun b => b = g) W1 wr ∧ at_ + rest.length = at0 + all.length ∧ pts.length + rest.length ≤ all.length

theorem Inv.chg {W1 : World} {g : Nat} {kv : Value} {all : List Int} {at0 : Int} {av lv : Value} {rest : List Int} {wr : World} (h : Inv W1 g kv all at0 av lv rest wr) : Chg (fun b => b = g) W1 wr := by
  obtain ⟨_, _, _, _, _, _, _, _, _, _, _, h, _⟩ := h; exact h


/-- The end, out of the invariant: 'all' is used up, or its front may still be made whole. -/
theorem Inv.fin {w W1 wr wq : World} {g base : Nat} {ok : Nat → Prop} {kv av lv : Value} {all rest : List Int} {at0 : Int} (h : Inv W1 g kv all at0 av lv rest wr) (hstop : ∀ p, dc rest p = ([], rest, p)) (hq : Drawn0 wr wq)
    (hW : Chg ok w W1) (hbase : base ≤ g) (hok : ok g) (hbw : base ≤ w.heap.size) (hgw : g < w.heap.size) : ∀ (v1 : Value) (w1 : World), w1.ownsRow wq.heap.size 5 1 v1 rest.length (nums .u8 rest) → Below wq.heap.size wq w1 → WritePost w g base all at0 ok (.returned lv) (w1.setCell ⟨g, 0, none⟩ v1) := by
  intro v1 w1 hown hb
  obtain ⟨pts, at_, A, c, rfl, hc, hC, hA, hR, hg, hd, hch, _, _⟩ := h
  have hs1 := hq.below.size
  have hs2 := hch.size
  have hs3 := hW.size
  have hs4 := hb.size
  have e : dc all at0 = (pts, rest, at_) := by rw [hd, hstop]; simp
  have hbq := hq.below
  have hRq : Kd.R k72 TP w1 W1.heap.size (fun b => b < wq.heap.size) lv pts := by
    have h1 := Kd.R_below hR hbq
    exact Kd.R_below (Kd.R_mono (Kd.R_bound h1) (fun b hb => hb.2.2.1)) hb
  have hgq : wq.heap[g]? = some (.cells #[kv, .int .i64 at_, .bool false] TD (0, 0)) := (hbq.block g (by omega)).trans hg
  have hg1 : w1.heap[g]? = some (.cells #[kv, .int .i64 at_, .bool false] TD (0, 0)) := (hb.block g (by omega)).trans hgq
  have hRg : Kd.R k72 TP w1 W1.heap.size (fun b => b < wq.heap.size ∧ b ≠ g) lv pts := Kd.R_mono (Kd.R_bound hRq) (fun b hb => ⟨hb.1, by have := hb.2.1; omega⟩)
  refine ⟨lv, wq.heap.size, rfl, by omega, ?_, ?_, ?_⟩
  · rw [e]
    exact Kd.R_lower (Kd.R_mono (Kd.R_far (p := ⟨g, 0, none⟩) hRg (fun b hb => hb.2) v1) (fun b hb => hb.1)) hs3
  · rw [e]
    refine ⟨v1, ?_, hbase, .inl rfl, ?_, ?_⟩
    · have := blk_set hg1 0 v1
      simpa using this
    · exact own_setCell (own_weaken hown (by omega)) (fun he => by have := own_base hown g he.symm; omega) v1
    · intro b hb2
      have := own_base hown b hb2
      exact ⟨.inr this, by omega⟩
  · exact ((((hW.trans hch (fun i hi hs => by subst hs; exact hok)).then_below hbq).then_below hb)).setCell (p := ⟨g, 0, none⟩) (.inl hok) v1

theorem chg_below {S : Nat → Prop} {w w1 w2 : World} (h : Chg S w w1) (k : Below w.heap.size w1 w2) : Chg S w w2 :=
  ⟨k.os.trans h.os, k.tape.trans h.tape, k.output.trans h.output, Nat.le_trans h.size k.size, fun i hi hn => (k.block i hi).trans (h.keep i hi hn)⟩
/-- One point told. -/
theorem Inv.next {W1 wr wq w2 : World} {g : Nat} {kv lv2 : Value} {all : List Int} {at0 : Int} {pts : List S72} {at_ : Int} {A : Option Addr} {c : Nat} {rest : List Int} {x : Int} {t : List Int} {r : Int} {m : Nat} (hx : rest = x :: t) (ho : one1 x t = (r, (m : Int), false))
    (hc : rest.length ≤ c) (hC : Kd.C (Kd.int .u8) wr A rest.length rest) (hA : ∀ ad, A = some ad → ad.block < W1.heap.size ∧ ad.block ≠ g) (hg : wr.heap[g]? = some (.cells #[kv, .int .i64 at_, .bool false] TD (0, 0)))
    (hd : dc all at0 = (pts ++ (dc rest at_).1, (dc rest at_).2)) (hch : Chg (fun b => b = g) W1 wr) (hs : at_ + rest.length = at0 + all.length) (hp : pts.length + rest.length ≤ all.length) (hgl : g < W1.heap.size)
    (hq : Drawn0 wr wq) (hR : Kd.R k72 TP w2 W1.heap.size (fun _ => True) lv2 (pts ++ [(⟨r, at_, m⟩ : S72)])) (hb : Below W1.heap.size wq w2) (A2 : Option Addr) (hA2 : A2 = if c = m then A else A.map (·.add (m * 1))) :
    Inv W1 g kv all at0 (.slice A2 (rest.length - m) (c - m)) lv2 (rest.drop m) (w2.setCell ⟨g, 1, none⟩ (.int .i64 (at_ + m))) := by
  have hw := one1_width x t
  rw [ho] at hw
  simp only at hw
  have hl : rest.length = t.length + 1 := by rw [hx]; rfl
  have hm : m ≤ rest.length := by omega
  have hs1 := hq.below.size
  have hs2 := hch.size
  have hgq : wq.heap[g]? = some (.cells #[kv, .int .i64 at_, .bool false] TD (0, 0)) := (hq.below.block g (by omega)).trans hg
  have hg2 := (hb.block g hgl).trans hgq
  have hread := ((rdint hC).below hq.below).drop_ m hm hc
  refine ⟨pts ++ [(⟨r, at_, m⟩ : S72)], at_ + m, A2, c - m, by rw [List.length_drop], by rw [List.length_drop]; omega, ?_, ?_, ?_, ?_, ?_, ?_, ?_, ?_⟩
  · rw [List.length_drop]
    have h1 : ReadsInt wq .u8 A2 (rest.length - m) (rest.drop m) := by
      rw [hA2]
      simpa using hread
    refine rdC ⟨h1.1, h1.2.1, fun hp => ?_⟩
    obtain ⟨ad, he, hcell⟩ := h1.2.2 hp
    refine ⟨ad, he, fun j hj => ?_⟩
    have hbk : ad.block < W1.heap.size ∧ ad.block ≠ g := by
      rw [hA2] at he
      split at he
      · exact hA ad he
      · cases A with
        | none => simp at he
        | some a0 =>
          simp only [Option.map_some, Option.some.injEq] at he
          have := hA a0 rfl
          rw [← he]
          unfold Addr.add
          split <;> exact this
    have hab : (ad.add j).block = ad.block := by unfold Addr.add; split <;> rfl
    have h2 : (w2.setCell ⟨g, 1, none⟩ (.int .i64 (at_ + m))).heap[(ad.add j).block]? = wq.heap[(ad.add j).block]? := by
      rw [hab]
      exact (Below.heap_setCell _ _ _ _ hbk.2).trans (hb.block _ hbk.1)
    rw [← hcell j hj]
    exact World.cell?_of_block h2
  · intro ad he
    rw [hA2] at he
    split at he
    · exact hA ad he
    · cases A with
      | none => simp at he
      | some a0 =>
        simp only [Option.map_some, Option.some.injEq] at he
        have := hA a0 rfl
        rw [← he]
        unfold Addr.add
        split <;> exact this
  · exact Kd.R_mono (Kd.R_far (p := ⟨g, 1, none⟩) (Kd.R_mono (ok' := fun b => b ≠ g) (Kd.R_bound hR) (fun b hb => by have := hb.2.1; omega)) (fun b hb => hb) _) (fun _ _ => trivial)
  · have := blk_set hg2 1 (.int .i64 (at_ + m))
    simpa using this
  · rw [hd, hx, dc_cons, ho]
    simp
  · exact (chg_below (hch.then_drawn hq) hb).setCell (p := ⟨g, 1, none⟩) (.inl rfl) _
  · rw [List.length_drop]; omega
  · rw [List.length_drop, List.length_append, List.length_singleton]; omega

set_option maxRecDepth 100000 in
set_option maxHeartbeats 4000000 in
theorem Write (w : World) (g base : Nat) (kept : List Int) (at0 : Int) (ok : Nat → Prop) (A : Option Addr) (n c : Nat) (bs : List Int) (h : IsDec g base kept at0 false ok w) (hb : ReadsInt w .u8 A n bs) 
    (hB : Bytes (kept ++ bs)) (hlen : kept.length + n ≤ 1000000000) (hat : 0 ≤ at0 ∧ at0 ≤ 4000000000000000) :
    Calls Try.prog 49 #[.pointer (some ⟨g, 0, none⟩), .slice A n c] w (WritePost w g base (kept ++ bs) at0 ok) := by
  obtain ⟨kv, h1, h2, h3, h4, h5⟩ := h
  have c0 : w.cell? ⟨g, 0, none⟩ = some kv := by simp [World.cell?, h1]
  have c2 : w.cell? ⟨g, 2, none⟩ = some (.bool false) := by simp [World.cell?, h1]
  have hl := blk_lt h1
  have hbn := hb.1
  have H1 := Aside0.mk h1
  have H4 := Aside0.mk h4
  have H5 := Aside0.mk h5
  have HBY := Aside0.mk hB
  have HRB := Aside0.mk hb
  have HBN := Aside0.mk hbn
  obtain ⟨hat0, hat1⟩ := hat
  clear h1 h4 h5 hB hb hbn
  go_enter Try.func49, Try.ntmps49
  go_wp2_with (at_builtin; go_must (refine print_append_row (w0 := w) base rfl (.tmp 21) (.tmp 22) 33 5 .u8 1 rfl Try.underlying33 info_8 (by decide) kv kept bs A n c rfl rfl H4.out HRB.out (Below.refl _ _) (by omega) (by omega) ?hh))
  case hh =>
    intro v1 W1 hown0 hb1 hg1 hat1
    obtain ⟨L, hL⟩ : ∃ L, L = (kept ++ bs).length := ⟨_, rfl⟩
    have hown : W1.ownsRow base 5 1 v1 L (nums .u8 (kept ++ bs)) := by rw [hL, List.length_append]; exact hown0
    clear hown0
    obtain ⟨A1, c1, rfl, hr1⟩ := own_reads hown
    have hn1 : (A1 = none → False) ∨ True := .inr trivial
    have hW : Chg ok w W1 := (Chg.refl ok w).grown hg1 (fun b hb => .inl (H5.out b hb).1)
    have hgW : W1.heap[g]? = some (.cells #[kv, .int .i64 at0, .bool false] TD (0, 0)) := (hg1.block g hl (fun he => (H5.out g he.symm).2 rfl)).trans H1.out
    have hcap : L ≤ c1 := by
      rcases hown.2 with ⟨he, hn⟩ | ⟨go, cap, cur, he, _, _, h7, _⟩
      · injection he; omega
      · injection he; omega
    have hA1 : ∀ ad, A1 = some ad → ad.block < W1.heap.size ∧ ad.block ≠ g := by
      intro ad he
      have hob : (Value.slice A1 L c1).ownBlock = some ad.block := by rw [he]; rfl
      refine ⟨own_lt hown _ hob, fun hbg => ?_⟩
      rcases hat1 with h7 | ⟨b, h7, h8⟩
      · rw [hob] at h7; exact (H5.out _ h7.symm).2 hbg
      · rw [hob] at h7; injection h7 with h7; omega
    have hsl : base ≤ w.heap.size := by omega
    have hall : (kept ++ bs).length ≤ 1000000000 := by rw [List.length_append, HBN.out]; exact hlen
    have hinv : Inv W1 g kv (kept ++ bs) at0 (.slice A1 (kept ++ bs).length c1) (.slice none 0 0) (kept ++ bs) W1 :=
      ⟨[], at0, A1, c1, rfl, by rw [← hL]; exact hcap, by rw [← hL]; exact rdC hr1, hA1, Kd.R_nil _ _ _ _ _, hgW, by simp, Chg.refl _ _, rfl, by simp⟩
    have hgl : g < W1.heap.size := blk_lt hgW
    have HINV := Aside0.mk hinv
    have HWW := Aside0.mk hW
    have HBY2 := Aside0.mk (show Bytes (kept ++ bs) from HBY.out)
    obtain ⟨all, hall2⟩ : ∃ all, all = kept ++ bs := ⟨_, rfl⟩
    rw [← hall2] at HINV HBY2 hall
    have HALL := Aside0.mk hall2
    have hrb : ∀ rest : List Int, (∃ k, rest = all.drop k) → Bytes rest := fun rest ⟨k, he⟩ => by rw [he]; exact bytes_drop HBY2.out k
    have hll : L = all.length := by rw [hall2, hL]
    have HLL := Aside0.mk hll
    clear hinv hW hcap hA1 hr1 hown hb1 hg1 hat1 hgW hall2 hn1 hll hL
    have HBR := Aside0.mk hrb
    clear hrb
    go_wp2_with fail
    go_loopw [5, 6] (fun av lv wr => ∃ (rest : List Int), Aside0 (Inv W1 g kv all at0 av lv rest wr) ∧ Aside0 (∃ k, rest = all.drop k)) (fun av _ _ => sliceLen av)
    case atStart => exact ⟨all, by rw [HLL.out]; exact HINV, ⟨0, by simp⟩⟩
    case round =>
      obtain ⟨rest, HI, HK⟩ := hrel
      have HBRE := Aside0.mk (HBR.out rest HK.out)
      obtain ⟨pts, at_, A, c, rfl, hc, hC, hA, hR, hg, hd, hch, hs, hp⟩ := HI.out
      have hfinI := HI.out
      have hm := Kd.C_max hC
      have hs1 := hch.size
      cases hrest : rest with
      | nil =>
        rw [hrest] at hfinI hC
        obtain ⟨wq, hwq⟩ : ∃ wq, wq = wr := ⟨_, rfl⟩
        have HC := Aside0.mk (show Kd.C (Kd.int .u8) wr A ([] : List Int).length [] from hC)
        have HG := Aside0.mk (And.intro hg (show g < wr.heap.size by omega))
        have HEND := Aside0.mk (Inv.fin hfinI (fun p => rfl) (Drawn0.refl wr) HWW.out h2 h3 (by omega) hl)
        clear hfinI hC hg hd hch hs hp hA hR hrest hc HI hwq
        go_wp2_with (at_builtin; go_must (refine print_append_row (w0 := wr) (wr).heap.size rfl (.const (.slice none 0 0)) (.tmp 56) 33 5 .u8 1 rfl Try.underlying33 info_8 (by decide) (.slice none 0 0) [] ([] : List Int) A (([] : List Int)).length c rfl rfl (own_nil _ _ _ _) (rdint HC.out) (Below.refl _ _) (Nat.le_refl _) (by first | (simp; done) | (simp; omega)) ?hh))
        case hh =>
          intro v1 w1 hown hb1 hg1 hat1
          have hc1 : w1.cell? ⟨g, 0, none⟩ = some kv := by
            have : w1.heap[g]? = (wr).heap[g]? := hb1.block g HG.out.2
            simp [World.cell?, this, HG.out.1]
          have hf1 : w1.frozen? ⟨g, 0, none⟩ = false := by
            have : w1.heap[g]? = (wr).heap[g]? := hb1.block g HG.out.2
            simp [World.frozen?, this, HG.out.1]
          have hfin : WritePost w g base all at0 ok (.returned u6) (w1.setCell ⟨g, 0, none⟩ v1) := HEND.out v1 w1 (by simpa using hown) hb1
          rw [HALL.out] at hfin
          have HFIN := Aside0.mk hfin
          obtain ⟨A1, c1, rfl⟩ := own_slice hown
          clear hfin hown hb1 hg1 hat1
          go_wp2
          go_ret
          exact HFIN.out
      | cons x t =>
        have hlr : rest.length ≤ all.length := by omega
        have hpos : 0 < rest.length := by rw [hrest]; simp
        have hdp : decide (0 < rest.length) = true := by simpa using hpos
        have hbr := HBRE.out
        have hone : utf_one.f 8 rest = some (one1 x t) := by rw [hrest] at hbr ⊢; exact one_pure x t hbr (by rw [← hrest]; omega)
        obtain ⟨r, nn, more, he⟩ : ∃ r nn more, one1 x t = (r, nn, more) := ⟨_, _, _, rfl⟩
        rw [he] at hone
        have hcall := utf_one.calls 8 A c rest r nn more wr hC hc hone
        have HCALL := Aside0.mk hcall
        have hw := one1_width x t
        rw [he] at hw
        obtain ⟨hw1, hw2, hw3⟩ := hw
        simp only at hw1 hw2 hw3
        have hge : g < wr.heap.size := by omega
        rw [← hrest]
        cases more with
        | true =>
          have hstop : ∀ p, dc rest p = ([], rest, p) := fun p => by rw [hrest, dc_cons, he]; rfl
          have HST := Aside0.mk hstop
          have HFI := Aside0.mk hfinI
          have HCC := Aside0.mk hC
          have HGG := Aside0.mk hg
          clear hfinI hC hg hd hch hs hp hA hR hrest HI hone hcall hbr hstop he
          go_wp2_with (first | (go_at_call 65; have t0 := HCALL.out; refine t0.mono ?_; rintro e wq ⟨rfl, hq⟩; have HQ := Aside0.mk hq; have HC := Aside0.mk (Kd.C_below HCC.out HQ.out.below); have HG := Aside0.mk (And.intro (HQ.out.below.block g hge |>.trans HGG.out) (Nat.lt_of_lt_of_le hge HQ.out.below.size)); have HEND := Aside0.mk (Inv.fin HFI.out HST.out HQ.out HWW.out h2 h3 (by omega) hl); clear hq t0 HCALL) | (at_builtin; go_must (refine print_append_row (w0 := wq) wq.heap.size rfl (.const (.slice none 0 0)) (.tmp 56) 33 5 .u8 1 rfl Try.underlying33 info_8 (by decide) (.slice none 0 0) [] rest A rest.length c rfl rfl (own_nil _ _ _ _) (rdint HC.out) (Below.refl _ _) (Nat.le_refl _) (by simp; omega) ?hh)))
          case hh =>
            intro v1 w1 hown hb1 hg1 hat1
            have hc1 : w1.cell? ⟨g, 0, none⟩ = some kv := by
              have : w1.heap[g]? = (wq).heap[g]? := hb1.block g HG.out.2
              simp [World.cell?, this, HG.out.1]
            have hf1 : w1.frozen? ⟨g, 0, none⟩ = false := by
              have : w1.heap[g]? = (wq).heap[g]? := hb1.block g HG.out.2
              simp [World.frozen?, this, HG.out.1]
            have hfin : WritePost w g base all at0 ok (.returned u6) (w1.setCell ⟨g, 0, none⟩ v1) := HEND.out v1 w1 (by simpa using hown) hb1
            rw [HALL.out] at hfin
            have HFIN := Aside0.mk hfin
            obtain ⟨A1, c1, rfl⟩ := own_slice hown
            clear hfin hown hb1 hg1 hat1
            go_wp2
            go_ret
            exact HFIN.out
        | false =>
          obtain ⟨m, rfl⟩ : ∃ m : Nat, nn = m := ⟨nn.toNat, by omega⟩
          obtain ⟨i8, hi8, hz8⟩ := Option.map_eq_some_iff.1 info_8
          simp only [Prod.mk.injEq] at hz8
          obtain ⟨A2, hA2⟩ : ∃ A2, A2 = (if c = m then A else A.map (·.add (m * 1))) := ⟨_, rfl⟩
          have hlt1 : rest.length = t.length + 1 := by rw [hrest]; rfl
          have hcut : ∀ W : World, (Instr.slice 33 (.slice A rest.length c) (some (.int .i64 (m : Int))) none none).run Try.prog W = .ok (.slice A2 (rest.length - m) (c - m)) W := by
            intro W
            have := cut_from (P := Try.prog) 33 5 .i64 Try.underlying33 hi8 1 hz8.2.1 A rest.length c (m : Int) (by omega) (by omega) W
            rw [hA2]
            simpa using this
          have hat_0 : 0 ≤ at_ := by omega
          have hat_1 : at_ ≤ 5000000000000000 := by omega
          obtain ⟨k0, hk0⟩ := HK.out
          have HDR := Aside0.mk (show ∃ k, rest.drop m = all.drop k from ⟨k0 + m, by rw [hk0, List.drop_drop]⟩)
          have HNX := Aside0.mk (fun (wq w2 : World) (lv2 : Value) (hq : Drawn0 wr wq) (hR2 : Kd.R k72 TP w2 W1.heap.size (fun _ => True) lv2 (pts ++ [(⟨r, at_, m⟩ : S72)])) (hb2 : Below W1.heap.size wq w2) =>
            Inv.next hrest he hc hC hA hg hd hch hs hp hgl hq hR2 hb2 A2 hA2)
          have HRR := Aside0.mk hR
          have HGG := Aside0.mk hg
          have hpl : pts.length ≤ 1000000000 := by omega
          have hmr : m ≤ rest.length := by omega
          clear hlt1 hfinI hC hg hd hch hs hp hA hR hrest HI hone hcall hbr he hi8 hz8 hA2 hk0 hm
          go_wp2_with (first | (go_at_call 65; go_must (have t0 := HCALL.out; refine t0.mono ?_; rintro e wq ⟨rfl, hq⟩; have HQ := Aside0.mk hq; have hgq := HQ.out.below.block g hge |>.trans HGG.out; have hc1 : wq.cell? ⟨g, 1, none⟩ = some (.int .i64 at_) := (by simp [World.cell?, hgq]); have HG := Aside0.mk hgq; have HS := Aside0.mk (HQ.out.below.size); clear hq t0 HCALL hgq)) | (at_builtin; go_must (refine Kd.R_append k72 (w0 := wq) W1.heap.size rfl (.tmp 34) (.tmp 42) 62 TP (.agg #[.int .i32 0, .int .i64 0, .int .i64 0]) 24 rfl Try.underlying62 info_P rfl (by decide) (by decide) u6 pts (⟨r, at_, m⟩ : S72) [.int .i32 r, .int .i64 at_, .int .i64 m] (fun _ => True) (fun _ => False) rfl rfl (k72_mkM _ _ _ _) (fun _ h => h.elim) (fun _ _ => trivial) (Kd.R_below HRR.out HQ.out.below) (Below.refl _ _) (Nat.le_trans hs1 HS.out) (by omega) ?hh)))
          case hh =>
            intro v1 w2 hR2 hb2 hg2 hat2
            have hgw := (hb2.block g hgl).trans HG.out
            have hd1 : w2.cell? ⟨g, 1, none⟩ = some (.int .i64 at_) := by simp [World.cell?, hgw]
            have hf1 : w2.frozen? ⟨g, 1, none⟩ = false := by simp [World.frozen?, hgw]
            have HI2 := Aside0.mk (HNX.out wq w2 v1 HQ.out hR2 hb2)
            clear hR2 hb2 hg2 hat2 hgw HNX
            go_wp2
            go_roundw
            case rel => exact ⟨rest.drop m, HI2, HDR⟩
            case measure => simp [sliceLen]; omega
end Go.Proofs.Ytpebemljgeammaa.Ud
