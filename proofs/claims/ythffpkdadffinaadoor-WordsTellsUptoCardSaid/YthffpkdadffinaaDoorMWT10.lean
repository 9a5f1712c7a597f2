/-
  Several texts of this claim in one: what its law's proof uses.
-/
import Derived.Test.YthffpkdadffinaaDoorMWT2
import Derived.Test.YthffpkdadffinaaDoorMWT9
import Derived.Test.YthffpkdadffinaaDoorMWT3
import Derived.Test.YthffpkdadffinaaDoorMWT8
import Derived.Deep.RegionHeld3
import Derived.Deep.DeepCutAuto
import Derived.BigQuiet
namespace Go.Proofs.YthffpkdadffinaaDoor.Ud
set_option linter.unusedVariables false
set_option linter.unusedSimpArgs false
open Go.RowKit YthffpkdadffinaaDoorW.PrintWords Hp X Ux
def sliceLen : Value → Nat
  | .slice _ n _ => n
  | _ => 0
def WritePost (w : World) (g base : Nat) (all : List Int) (at_ : Int) (ok : Nat → Prop) (e : Ending) (w' : World) : Prop :=
  ∃ lv M, e = .returned lv ∧ w.heap.size ≤ M ∧ Kd.R k103 TP w' w.heap.size (fun b => b < M) lv (dc all at_).1 ∧ IsDec g base (dc all at_).2.1 (dc all at_).2.2 false (fun b => b = g ∨ M ≤ b) w' ∧ Chg ok w w'
def Inv (W1 : World) (g : Nat) (kv : Value) (all : List Int) (at0 : Int) (av lv : Value) (rest : List Int) (wr : World) : Prop :=
  ∃ (pts : List S103) (at_ : Int) (A : Option Addr) (c : Nat), av = .slice A rest.length c ∧ rest.length ≤ c ∧ Kd.C (Kd.int .u8) wr A rest.length rest ∧ (∀ ad, A = some ad → ad.block < W1.heap.size ∧ ad.block ≠ g) ∧
    Kd.R k103 TP wr W1.heap.size (fun _ => True) lv pts ∧ wr.heap[g]? = some (.cells #[kv, .int .i64 at_, .bool false] TD (0, 0)) ∧
    dc all at0 = (pts ++ (dc rest at_).1, (dc rest at_).2) ∧ Chg (fun b => b = g) W1 wr ∧ at_ + rest.length = at0 + all.length ∧ pts.length + rest.length ≤ all.length
theorem Inv.fin {w W1 wr wq : World} {g base : Nat} {ok : Nat → Prop} {kv av lv : Value} {all rest : List Int} {at0 : Int} (h : Inv W1 g kv all at0 av lv rest wr) (hstop : ∀ p, dc rest p = ([], rest, p)) (hq : Drawn0 wr wq)
    (hW : Chg ok w W1) (hbase : base ≤ g) (hok : ok g) (hbw : base ≤ w.heap.size) (hgw : g < w.heap.size) : ∀ (v1 : Value) (w1 : World), w1.ownsRow wq.heap.size 5 1 v1 rest.length (nums .u8 rest) → Below wq.heap.size wq w1 → WritePost w g base all at0 ok (.returned lv) (w1.setCell ⟨g, 0, none⟩ v1) := by
  intro v1 w1 hown hb; obtain ⟨pts, at_, A, c, rfl, hc, hC, hA, hR, hg, hd, hch, _, _⟩ := h; have hs1 := hq.below.size; have hs2 := hch.size; have hs3 := hW.size; have hs4 := hb.size; (have e : dc all at0 = (pts, rest, at_) := by rw [hd, hstop]; simp); have hbq := hq.below
  have hRq : Kd.R k103 TP w1 W1.heap.size (fun b => b < wq.heap.size) lv pts := by
    have h1 := Kd.R_below hR hbq; exact Kd.R_below (Kd.R_mono (Kd.R_bound h1) (fun b hb => hb.2.2.1)) hb
  have hgq : wq.heap[g]? = some (.cells #[kv, .int .i64 at_, .bool false] TD (0, 0)) := (hbq.block g (by omega)).trans hg; have hg1 : w1.heap[g]? = some (.cells #[kv, .int .i64 at_, .bool false] TD (0, 0)) := (hb.block g (by omega)).trans hgq; have hRg : Kd.R k103 TP w1 W1.heap.size (fun b => b < wq.heap.size ∧ b ≠ g) lv pts := Kd.R_mono (Kd.R_bound hRq) (fun b hb => ⟨hb.1, by have := hb.2.1; omega⟩); refine ⟨lv, wq.heap.size, rfl, by omega, ?_, ?_, ?_⟩
  · rw [e]; exact Kd.R_lower (Kd.R_mono (Kd.R_far (p := ⟨g, 0, none⟩) hRg (fun b hb => hb.2) v1) (fun b hb => hb.1)) hs3
  · rw [e]; refine ⟨v1, ?_, hbase, .inl rfl, ?_, ?_⟩
    · have := blk_set hg1 0 v1
      simpa using this
    · exact own_setCell (own_weaken hown (by omega)) (fun he => by have := own_base hown g he.symm; omega) v1
    · intro b hb2; have := own_base hown b hb2; exact ⟨.inr this, by omega⟩
  · exact ((((hW.trans hch (fun i hi hs => by subst hs; exact hok)).then_below hbq).then_below hb)).setCell (p := ⟨g, 0, none⟩) (.inl hok) v1
theorem chg_below {S : Nat → Prop} {w w1 w2 : World} (h : Chg S w w1) (k : Below w.heap.size w1 w2) : Chg S w w2 :=
  ⟨k.os.trans h.os, k.tape.trans h.tape, k.output.trans h.output, Nat.le_trans h.size k.size, fun i hi hn => (k.block i hi).trans (h.keep i hi hn)⟩
theorem Inv.next {W1 wr wq w2 : World} {g : Nat} {kv lv2 : Value} {all : List Int} {at0 : Int} {pts : List S103} {at_ : Int} {A : Option Addr} {c : Nat} {rest : List Int} {x : Int} {t : List Int} {r : Int} {m : Nat} (hx : rest = x :: t) (ho : one1 x t = (r, (m : Int), false))
    (hc : rest.length ≤ c) (hC : Kd.C (Kd.int .u8) wr A rest.length rest) (hA : ∀ ad, A = some ad → ad.block < W1.heap.size ∧ ad.block ≠ g) (hg : wr.heap[g]? = some (.cells #[kv, .int .i64 at_, .bool false] TD (0, 0)))
    (hd : dc all at0 = (pts ++ (dc rest at_).1, (dc rest at_).2)) (hch : Chg (fun b => b = g) W1 wr) (hs : at_ + rest.length = at0 + all.length) (hp : pts.length + rest.length ≤ all.length) (hgl : g < W1.heap.size)
    (hq : Drawn0 wr wq) (hR : Kd.R k103 TP w2 W1.heap.size (fun _ => True) lv2 (pts ++ [(⟨r, at_, m⟩ : S103)])) (hb : Below W1.heap.size wq w2) (A2 : Option Addr) (hA2 : A2 = if c = m then A else A.map (·.add (m * 1))) :
    Inv W1 g kv all at0 (.slice A2 (rest.length - m) (c - m)) lv2 (rest.drop m) (w2.setCell ⟨g, 1, none⟩ (.int .i64 (at_ + m))) := by
  have hw := one1_width x t; rw [ho] at hw; simp only at hw; (have hl : rest.length = t.length + 1 := by rw [hx]; rfl); (have hm : m ≤ rest.length := by omega); have hs1 := hq.below.size; have hs2 := hch.size; have hgq : wq.heap[g]? = some (.cells #[kv, .int .i64 at_, .bool false] TD (0, 0)) := (hq.below.block g (by omega)).trans hg; have hg2 := (hb.block g hgl).trans hgq; have hread := ((rdint hC).below hq.below).drop_ m hm hc; refine ⟨pts ++ [(⟨r, at_, m⟩ : S103)], at_ + m, A2, c - m, by rw [List.length_drop], by rw [List.length_drop]; omega, ?_, ?_, ?_, ?_, ?_, ?_, ?_, ?_⟩
  · rw [List.length_drop]
    have h1 : ReadsInt wq .u8 A2 (rest.length - m) (rest.drop m) := by
      rw [hA2]
      simpa using hread
    refine rdC ⟨h1.1, h1.2.1, fun hp => ?_⟩; obtain ⟨ad, he, hcell⟩ := h1.2.2 hp; refine ⟨ad, he, fun j hj => ?_⟩
    have hbk : ad.block < W1.heap.size ∧ ad.block ≠ g := by
      rw [hA2] at he; split at he
      · exact hA ad he
      · cases A with
        | none => simp at he
        | some a0 =>
          simp only [Option.map_some, Option.some.injEq] at he; have := hA a0 rfl; rw [← he]; unfold Addr.add; split <;> exact this
    have hab : (ad.add j).block = ad.block := by unfold Addr.add; split <;> rfl
    have h2 : (w2.setCell ⟨g, 1, none⟩ (.int .i64 (at_ + m))).heap[(ad.add j).block]? = wq.heap[(ad.add j).block]? := by
      rw [hab]; exact (Below.heap_setCell _ _ _ _ hbk.2).trans (hb.block _ hbk.1)
    rw [← hcell j hj]; exact World.cell?_of_block h2
  · intro ad he; rw [hA2] at he; split at he
    · exact hA ad he
    · cases A with
      | none => simp at he
      | some a0 =>
        simp only [Option.map_some, Option.some.injEq] at he; have := hA a0 rfl; rw [← he]; unfold Addr.add; split <;> exact this
  · exact Kd.R_mono (Kd.R_far (p := ⟨g, 1, none⟩) (Kd.R_mono (ok' := fun b => b ≠ g) (Kd.R_bound hR) (fun b hb => by have := hb.2.1; omega)) (fun b hb => hb) _) (fun _ _ => trivial)
  · have := blk_set hg2 1 (.int .i64 (at_ + m))
    simpa using this
  · rw [hd, hx, dc_cons, ho]; simp
  · exact (chg_below (hch.then_drawn hq) hb).setCell (p := ⟨g, 1, none⟩) (.inl rfl) _
  · rw [List.length_drop]; omega
  · rw [List.length_drop, List.length_append, List.length_singleton]; omega
set_option maxRecDepth 100000 in
set_option maxHeartbeats 4000000 in
theorem Write (w : World) (g base : Nat) (kept : List Int) (at0 : Int) (ok : Nat → Prop) (A : Option Addr) (n c : Nat) (bs : List Int) (h : IsDec g base kept at0 false ok w) (hb : ReadsInt w .u8 A n bs) 
    (hB : Bytes (kept ++ bs)) (hlen : kept.length + n ≤ 1000000000) (hat : 0 ≤ at0 ∧ at0 ≤ 4000000000000000) :
    Calls Tryd.prog 45 #[.pointer (some ⟨g, 0, none⟩), .slice A n c] w (WritePost w g base (kept ++ bs) at0 ok) := by
  obtain ⟨kv, h1, h2, h3, h4, h5⟩ := h; (have c0 : w.cell? ⟨g, 0, none⟩ = some kv := by simp [World.cell?, h1]); (have c2 : w.cell? ⟨g, 2, none⟩ = some (.bool false) := by simp [World.cell?, h1]); have hl := blk_lt h1; have hbn := hb.1; have H1 := Aside0.mk h1; have H4 := Aside0.mk h4; have H5 := Aside0.mk h5; have HBY := Aside0.mk hB; have HRB := Aside0.mk hb; have HBN := Aside0.mk hbn; obtain ⟨hat0, hat1⟩ := hat; clear h1 h4 h5 hB hb hbn; go_enter Tryd.func45, Tryd.ntmps45; go_wp2_with (at_builtin; go_must (refine print_append_row (w0 := w) base rfl (.tmp 21) (.tmp 22) 23 5 .u8 1 rfl Tryd.underlying23 info_8 (by decide) kv kept bs A n c rfl rfl H4.out HRB.out (Below.refl _ _) (by omega) (by omega) ?hh))
  case hh =>
    intro v1 W1 hown0 hb1 hg1 hat1; obtain ⟨L, hL⟩ : ∃ L, L = (kept ++ bs).length := ⟨_, rfl⟩; (have hown : W1.ownsRow base 5 1 v1 L (nums .u8 (kept ++ bs)) := by rw [hL, List.length_append]; exact hown0); clear hown0; obtain ⟨A1, c1, rfl, hr1⟩ := own_reads hown; have hn1 : (A1 = none → False) ∨ True := .inr trivial; have hW : Chg ok w W1 := (Chg.refl ok w).grown hg1 (fun b hb => .inl (H5.out b hb).1); have hgW : W1.heap[g]? = some (.cells #[kv, .int .i64 at0, .bool false] TD (0, 0)) := (hg1.block g hl (fun he => (H5.out g he.symm).2 rfl)).trans H1.out
    have hcap : L ≤ c1 := by
      rcases hown.2 with ⟨he, hn⟩ | ⟨go, cap, cur, he, _, _, h7, _⟩
      · injection he; omega
      · injection he; omega
    have hA1 : ∀ ad, A1 = some ad → ad.block < W1.heap.size ∧ ad.block ≠ g := by
      intro ad he; (have hob : (Value.slice A1 L c1).ownBlock = some ad.block := by rw [he]; rfl); refine ⟨own_lt hown _ hob, fun hbg => ?_⟩; rcases hat1 with h7 | ⟨b, h7, h8⟩
      · rw [hob] at h7; exact (H5.out _ h7.symm).2 hbg
      · rw [hob] at h7; injection h7 with h7; omega
    (have hsl : base ≤ w.heap.size := by omega); have hall : (kept ++ bs).length ≤ 1000000000 := by rw [List.length_append, HBN.out]; exact hlen
    have hinv : Inv W1 g kv (kept ++ bs) at0 (.slice A1 (kept ++ bs).length c1) (.slice none 0 0) (kept ++ bs) W1 :=
      ⟨[], at0, A1, c1, rfl, by rw [← hL]; exact hcap, by rw [← hL]; exact rdC hr1, hA1, Kd.R_nil _ _ _ _ _, hgW, by simp, Chg.refl _ _, rfl, by simp⟩
    have hgl : g < W1.heap.size := blk_lt hgW; have HINV := Aside0.mk hinv; have HWW := Aside0.mk hW; have HBY2 := Aside0.mk (show Bytes (kept ++ bs) from HBY.out); obtain ⟨all, hall2⟩ : ∃ all, all = kept ++ bs := ⟨_, rfl⟩; rw [← hall2] at HINV HBY2 hall; have HALL := Aside0.mk hall2; (have hrb : ∀ rest : List Int, (∃ k, rest = all.drop k) → Bytes rest := fun rest ⟨k, he⟩ => by rw [he]; exact bytes_drop HBY2.out k); (have hll : L = all.length := by rw [hall2, hL]); have HLL := Aside0.mk hll; clear hinv hW hcap hA1 hr1 hown hb1 hg1 hat1 hgW hall2 hn1 hll hL; have HBR := Aside0.mk hrb; clear hrb; go_wp2_with fail; go_loopw [5, 6] (fun av lv wr => ∃ (rest : List Int), Aside0 (Inv W1 g kv all at0 av lv rest wr) ∧ Aside0 (∃ k, rest = all.drop k)) (fun av _ _ => sliceLen av)
    case atStart => exact ⟨all, by rw [HLL.out]; exact HINV, ⟨0, by simp⟩⟩
    case round =>
      obtain ⟨rest, HI, HK⟩ := hrel; have HBRE := Aside0.mk (HBR.out rest HK.out); obtain ⟨pts, at_, A, c, rfl, hc, hC, hA, hR, hg, hd, hch, hs, hp⟩ := HI.out; have hfinI := HI.out; have hm := Kd.C_max hC; have hs1 := hch.size
      cases hrest : rest with
      | nil =>
        rw [hrest] at hfinI hC; obtain ⟨wq, hwq⟩ : ∃ wq, wq = wr := ⟨_, rfl⟩; have HC := Aside0.mk (show Kd.C (Kd.int .u8) wr A ([] : List Int).length [] from hC); have HG := Aside0.mk (And.intro hg (show g < wr.heap.size by omega)); have HEND := Aside0.mk (Inv.fin hfinI (fun p => rfl) (Drawn0.refl wr) HWW.out h2 h3 (by omega) hl); clear hfinI hC hg hd hch hs hp hA hR hrest hc HI hwq; go_wp2_with (at_builtin; go_must (refine print_append_row (w0 := wr) (wr).heap.size rfl (.const (.slice none 0 0)) (.tmp 56) 23 5 .u8 1 rfl Tryd.underlying23 info_8 (by decide) (.slice none 0 0) [] ([] : List Int) A (([] : List Int)).length c rfl rfl (own_nil _ _ _ _) (rdint HC.out) (Below.refl _ _) (Nat.le_refl _) (by first | (simp; done) | (simp; omega)) ?hh))
        case hh =>
          intro v1 w1 hown hb1 hg1 hat1
          have hc1 : w1.cell? ⟨g, 0, none⟩ = some kv := by
            have : w1.heap[g]? = (wr).heap[g]? := hb1.block g HG.out.2; simp [World.cell?, this, HG.out.1]
          have hf1 : w1.frozen? ⟨g, 0, none⟩ = false := by
            have : w1.heap[g]? = (wr).heap[g]? := hb1.block g HG.out.2; simp [World.frozen?, this, HG.out.1]
          have hfin : WritePost w g base all at0 ok (.returned u6) (w1.setCell ⟨g, 0, none⟩ v1) := HEND.out v1 w1 (by simpa using hown) hb1; rw [HALL.out] at hfin; have HFIN := Aside0.mk hfin; obtain ⟨A1, c1, rfl⟩ := own_slice hown; clear hfin hown hb1 hg1 hat1; go_wp2; go_ret; exact HFIN.out
      | cons x t =>
        (have hlr : rest.length ≤ all.length := by omega); (have hpos : 0 < rest.length := by rw [hrest]; simp); (have hdp : decide (0 < rest.length) = true := by simpa using hpos); have hbr := HBRE.out; (have hone : utf_one.f 8 rest = some (one1 x t) := by rw [hrest] at hbr ⊢; exact one_pure x t hbr (by rw [← hrest]; omega)); obtain ⟨r, nn, more, he⟩ : ∃ r nn more, one1 x t = (r, nn, more) := ⟨_, _, _, rfl⟩; rw [he] at hone; have hcall := utf_one.calls 8 A c rest r nn more wr hC hc hone; have HCALL := Aside0.mk hcall; have hw := one1_width x t; rw [he] at hw; obtain ⟨hw1, hw2, hw3⟩ := hw; simp only at hw1 hw2 hw3; (have hge : g < wr.heap.size := by omega); rw [← hrest]
        cases more with
        | true =>
          (have hstop : ∀ p, dc rest p = ([], rest, p) := fun p => by rw [hrest, dc_cons, he]; rfl); have HST := Aside0.mk hstop; have HFI := Aside0.mk hfinI; have HCC := Aside0.mk hC; have HGG := Aside0.mk hg; clear hfinI hC hg hd hch hs hp hA hR hrest HI hone hcall hbr hstop he; go_wp2_with (first | (go_at_call 81; have t0 := HCALL.out; refine t0.mono ?_; rintro e wq ⟨rfl, hq⟩; have HQ := Aside0.mk hq; have HC := Aside0.mk (Kd.C_below HCC.out HQ.out.below); have HG := Aside0.mk (And.intro (HQ.out.below.block g hge |>.trans HGG.out) (Nat.lt_of_lt_of_le hge HQ.out.below.size)); have HEND := Aside0.mk (Inv.fin HFI.out HST.out HQ.out HWW.out h2 h3 (by omega) hl); clear hq t0 HCALL) | (at_builtin; go_must (refine print_append_row (w0 := wq) wq.heap.size rfl (.const (.slice none 0 0)) (.tmp 56) 23 5 .u8 1 rfl Tryd.underlying23 info_8 (by decide) (.slice none 0 0) [] rest A rest.length c rfl rfl (own_nil _ _ _ _) (rdint HC.out) (Below.refl _ _) (Nat.le_refl _) (by simp; omega) ?hh)))
          case hh =>
            intro v1 w1 hown hb1 hg1 hat1
            have hc1 : w1.cell? ⟨g, 0, none⟩ = some kv := by
              have : w1.heap[g]? = (wq).heap[g]? := hb1.block g HG.out.2; simp [World.cell?, this, HG.out.1]
            have hf1 : w1.frozen? ⟨g, 0, none⟩ = false := by
              have : w1.heap[g]? = (wq).heap[g]? := hb1.block g HG.out.2; simp [World.frozen?, this, HG.out.1]
            have hfin : WritePost w g base all at0 ok (.returned u6) (w1.setCell ⟨g, 0, none⟩ v1) := HEND.out v1 w1 (by simpa using hown) hb1; rw [HALL.out] at hfin; have HFIN := Aside0.mk hfin; obtain ⟨A1, c1, rfl⟩ := own_slice hown; clear hfin hown hb1 hg1 hat1; go_wp2; go_ret; exact HFIN.out
        | false =>
          obtain ⟨m, rfl⟩ : ∃ m : Nat, nn = m := ⟨nn.toNat, by omega⟩; obtain ⟨i8, hi8, hz8⟩ := Option.map_eq_some_iff.1 info_8; simp only [Prod.mk.injEq] at hz8; obtain ⟨A2, hA2⟩ : ∃ A2, A2 = (if c = m then A else A.map (·.add (m * 1))) := ⟨_, rfl⟩; have hlt1 : rest.length = t.length + 1 := by rw [hrest]; rfl
          have hcut : ∀ W : World, (Instr.slice 23 (.slice A rest.length c) (some (.int .i64 (m : Int))) none none).run Tryd.prog W = .ok (.slice A2 (rest.length - m) (c - m)) W := by
            intro W; have := cut_from (P := Tryd.prog) 23 5 .i64 Tryd.underlying23 hi8 1 hz8.2.1 A rest.length c (m : Int) (by omega) (by omega) W; rw [hA2]
            simpa using this
          (have hat_0 : 0 ≤ at_ := by omega); (have hat_1 : at_ ≤ 5000000000000000 := by omega); obtain ⟨k0, hk0⟩ := HK.out; have HDR := Aside0.mk (show ∃ k, rest.drop m = all.drop k from ⟨k0 + m, by rw [hk0, List.drop_drop]⟩)
          have HNX := Aside0.mk (fun (wq w2 : World) (lv2 : Value) (hq : Drawn0 wr wq) (hR2 : Kd.R k103 TP w2 W1.heap.size (fun _ => True) lv2 (pts ++ [(⟨r, at_, m⟩ : S103)])) (hb2 : Below W1.heap.size wq w2) =>
            Inv.next hrest he hc hC hA hg hd hch hs hp hgl hq hR2 hb2 A2 hA2)
          have HRR := Aside0.mk hR; have HGG := Aside0.mk hg; (have hpl : pts.length ≤ 1000000000 := by omega); (have hmr : m ≤ rest.length := by omega); clear hlt1 hfinI hC hg hd hch hs hp hA hR hrest HI hone hcall hbr he hi8 hz8 hA2 hk0 hm; go_wp2_with (first | (go_at_call 81; go_must (have t0 := HCALL.out; refine t0.mono ?_; rintro e wq ⟨rfl, hq⟩; have HQ := Aside0.mk hq; have hgq := HQ.out.below.block g hge |>.trans HGG.out; have hc1 : wq.cell? ⟨g, 1, none⟩ = some (.int .i64 at_) := (by simp [World.cell?, hgq]); have HG := Aside0.mk hgq; have HS := Aside0.mk (HQ.out.below.size); clear hq t0 HCALL hgq)) | (at_builtin; go_must (refine Kd.R_append k103 (w0 := wq) W1.heap.size rfl (.tmp 34) (.tmp 42) 74 TP (.agg #[.int .i32 0, .int .i64 0, .int .i64 0]) 24 rfl Tryd.underlying74 info_P rfl (by decide) (by decide) u6 pts (⟨r, at_, m⟩ : S103) [.int .i32 r, .int .i64 at_, .int .i64 m] (fun _ => True) (fun _ => False) rfl rfl (k103_mkM _ _ _ _) (fun _ h => h.elim) (fun _ _ => trivial) (Kd.R_below HRR.out HQ.out.below) (Below.refl _ _) (Nat.le_trans hs1 HS.out) (by omega) ?hh)))
          case hh =>
            intro v1 w2 hR2 hb2 hg2 hat2; have hgw := (hb2.block g hgl).trans HG.out; (have hd1 : w2.cell? ⟨g, 1, none⟩ = some (.int .i64 at_) := by simp [World.cell?, hgw]); (have hf1 : w2.frozen? ⟨g, 1, none⟩ = false := by simp [World.frozen?, hgw]); have HI2 := Aside0.mk (HNX.out wq w2 v1 HQ.out hR2 hb2); clear hR2 hb2 hg2 hat2 hgw HNX; go_wp2; go_roundw
            case rel => exact ⟨rest.drop m, HI2, HDR⟩
            case measure => simp [sliceLen]; omega
end Go.Proofs.YthffpkdadffinaaDoor.Ud
namespace Go.Proofs.YthffpkdadffinaaDoor.Dc
set_option linter.unusedVariables false
set_option linter.unusedSimpArgs false
open Go.RowKit YthffpkdadffinaaDoorW.PrintWords Hp Fm X Ux Ud
def decT (g base : Nat) (kept : List Int) (at_ : Int) (closed : Bool) : Th :=
  ⟨fun ok w => IsDec g base kept at_ closed ok w, fun h hm => h.step hm, fun h => h.bound⟩
section
variable {w0 w w' : World} {L : List Th}
theorem NewS (h : Sep w0 L w) : Calls Tryd.prog 42 #[] w fun e w' => ∃ g, e = .returned (.pointer (some ⟨g, 0, none⟩)) ∧ Sep w0 (L ++ [decT g w0.heap.size [] 0 false]) w' := by
  refine (New w).mono ?_; rintro e w' ⟨g, rfl, hg, hd, hb⟩; exact ⟨g, rfl, h.new (decT g w0.heap.size [] 0 false) (ok := fun b => b = g) (hd.lower h.below.size) (fun b hb => by rw [hb]; exact hg) hb⟩
theorem WriteS (h : Sep w0 L w) (i : Nat) {g : Nat} {kept : List Int} {at0 : Int} (hi : L[i]? = some (decT g w0.heap.size kept at0 false)) (A : Option Addr) (n c : Nat) (bs : List Int) (hb : ReadsInt w .u8 A n bs)
    (hB : Bytes (kept ++ bs)) (hlen : kept.length + n ≤ 1000000000) (hat : 0 ≤ at0 ∧ at0 ≤ 4000000000000000) :
    Calls Tryd.prog 45 #[.pointer (some ⟨g, 0, none⟩), .slice A n c] w fun e w' => ∃ A' c', e = .returned (.slice A' (dc (kept ++ bs) at0).1.length c') ∧
      Sep w0 (L.set i (decT g w0.heap.size (dc (kept ++ bs) at0).2.1 (dc (kept ++ bs) at0).2.2 false) ++ [rowT k103 TP w0.heap.size (.slice A' (dc (kept ++ bs) at0).1.length c') (dc (kept ++ bs) at0).1]) w' := by
  have hs := h.below.size; obtain ⟨ok, h1, h2, h3⟩ := h.op2 i _ hi; have h1' : IsDec g w0.heap.size kept at0 false ok w := h1; refine (Write w g w0.heap.size kept at0 ok A n c bs h1' hb hB hlen hat).mono ?_; rintro e w' ⟨lv, M, rfl, q1, q2, q3, q4⟩; obtain ⟨A', c', rfl⟩ := Kd.R_slice q2; refine ⟨A', c', rfl, h3 w' (decT _ _ _ _ _) (rowT _ _ _ _ _) (fun b => b = g ∨ M ≤ b) (fun b => b < M ∧ w.heap.size ≤ b) q3 (Kd.R_lower (Kd.R_mono (Kd.R_bound q2) (fun k hk => ⟨hk.1, hk.2.1⟩)) hs) ?_ (fun b hb => hb.2) ?_ q4⟩
  · intro b hb2; rcases hb2 with rfl | hb2
    · exact .inl h1'.lt.2.2
    · exact .inr (Nat.le_trans q1 hb2)
  · intro b hb2 hb3; have hgl := h1'.lt.1; rcases hb2 with rfl | hb2 <;> omega
theorem CloseS (h : Sep w0 L w) (i : Nat) {g : Nat} {kept : List Int} {at0 : Int} (hi : L[i]? = some (decT g w0.heap.size kept at0 false)) :
    Calls Tryd.prog 50 #[.pointer (some ⟨g, 0, none⟩)] w fun e w' => ∃ A' c', e = .returned (.slice A' (rest1 kept at0).length c') ∧
      Sep w0 (L.set i (decT g w0.heap.size [] at0 true) ++ [rowT k103 TP w0.heap.size (.slice A' (rest1 kept at0).length c') (rest1 kept at0)]) w' := by
  have hs := h.below.size; obtain ⟨ok, h1, h2, h3⟩ := h.op2 i _ hi; have h1' : IsDec g w0.heap.size kept at0 false ok w := h1; refine (Close w g w0.heap.size kept at0 ok h1').mono ?_; rintro e w' ⟨lv, rfl, q1, q2, q3⟩; obtain ⟨A', c', rfl⟩ := Kd.R_slice q1; refine ⟨A', c', rfl, h3 w' (decT _ _ _ _ _) (rowT _ _ _ _ _) (fun b => b = g) (fun b => w.heap.size ≤ b) q2 (Kd.R_lower (Kd.R_mono (Kd.R_bound q1) (fun k hk => hk.2.1)) hs) ?_ (fun b hb => hb) ?_ (q3.mono (fun k _ hk => by rw [hk]; exact h1'.lt.2.2))⟩
  · intro b hb2; rw [hb2]; exact .inl h1'.lt.2.2
  · intro b hb2 hb3; have hgl := h1'.lt.1; omega
end
end Go.Proofs.YthffpkdadffinaaDoor.Dc
namespace Go.Proofs.YthffpkdadffinaaDoor.Sx
set_option linter.unusedVariables false
set_option linter.unusedSimpArgs false
open Go.RowKit YthffpkdadffinaaDoorW.PrintWords Hp
theorem reads_string {P : Program} {w : World} {src dst e : TypeId} {A : Option Addr} {n c : Nat} {xs : List Int} (hs : P.underlying src = some (.slice e)) (he : P.underlying e = some (.int .u8)) (hd : P.underlying dst = some .string) (h : ReadsInt w .u8 A n xs) :
    (convert src dst (.slice A n c)).run P w = .ok (.string (strOfNums xs)) w := by
  have hl := h.1
  cases A with
  | none =>
    have h0 : n = 0 := by
      rcases Nat.eq_zero_or_pos n with h0 | h0
      · exact h0
      · obtain ⟨ad, e1, _⟩ := h.2.2 h0; cases e1
    obtain rfl : xs = [] := List.eq_nil_of_length_eq_zero (by omega); exact run_convert_bytes_nil w src e hs he n c dst hd
  | some a =>
    have hload : (loadCells a n).run P w = .ok (xs.map (Value.int .u8)).toArray w := by
      have := run_loadCells_list (P := P) w a (xs.map (Value.int .u8)) (fun j v hj => by
        have hjl : j < xs.length := by
          rcases Nat.lt_or_ge j xs.length with h | h
          · exact h
          · simp [List.getElem?_eq_none (show (xs.map (Value.int .u8)).length ≤ j by simpa using h)] at hj
        obtain ⟨ad, e1, hc⟩ := h.2.2 (by omega); cases e1; rw [hc j (by omega)]; simp [List.getElem?_eq_getElem hjl] at hj; subst hj
        simp [List.getD, List.getElem?_eq_getElem hjl])
      simpa [hl] using this
    rw [run_convert_bytes_string w src dst e _ n c hs he hd, run_bytesToString w _ n c xs hload, foldl_push_bytes]; simp [strOfNums, ByteArray.empty, ByteArray.emptyWithCapacity]
    rfl
end Go.Proofs.YthffpkdadffinaaDoor.Sx
namespace Go.Proofs.YthffpkdadffinaaDoor.Ud
set_option linter.unusedVariables false
set_option linter.unusedSimpArgs false
open Go.RowKit YthffpkdadffinaaDoorW.PrintWords Hp X Ux
theorem k72_KM {w w' : World} {base : Nat} {ok : Nat → Prop} (x : S103) (cs : List Value) (h : k103.K w x cs) : k103.M w' base ok x cs := by
  obtain rfl := k103_open h; exact k103_mkM _ _ _ _
theorem full_len (b : List Int) : (full b).length ≤ b.length := by
  have := dc_len b 0; unfold full rest1; rw [List.length_append]; split
  · simp; omega
  · rename_i h; (have : (dc b 0).2.1.length ≠ 0 := fun e => h (List.eq_nil_of_length_eq_zero e)); simp; omega
def DecPost (w : World) (bs : List Int) (e : Ending) (w' : World) : Prop := ∃ A c, e = .returned (.slice A (full bs).length c) ∧ (full bs).length ≤ c ∧ Kd.R k103 TP w' w.heap.size (fun _ => True) (.slice A (full bs).length c) (full bs) ∧ Below w.heap.size w w'
set_option maxRecDepth 100000 in
set_option maxHeartbeats 2000000 in
theorem Decode (w : World) (A : Option Addr) (n c : Nat) (bs : List Int) (hb : ReadsInt w .u8 A n bs) (hB : Bytes bs) (hlen : n ≤ 1000000000) :
    Calls Tryd.prog 93 #[.slice A n c] w (DecPost w bs) := by
  have hbn := hb.1; have HB := Aside0.mk hb; have HBY := Aside0.mk hB; have HBN := Aside0.mk hbn; clear hb hB hbn; go_enter Tryd.func93, Tryd.ntmps93; go_wp2_with (first | (go_at_call 42; refine (New w).mono ?_; rintro e w1 ⟨g, rfl, p0, p1, p2⟩; have P0 := Aside0.mk p0; have P1 := Aside0.mk p1; have P2 := Aside0.mk p2; clear p0 p1 p2) | (go_at_call 45; go_must (refine (Write w1 g w.heap.size [] 0 _ A n c bs P1.out (HB.out.below P2.out) HBY.out (by simp; omega) (by omega)).mono ?_; rintro e w2 ⟨lv, M, rfl, q1, q2, q3, q4⟩; have Q1 := Aside0.mk q1; have Q2 := Aside0.mk q2; have Q3 := Aside0.mk q3; have Q4 := Aside0.mk q4; clear q1 q2 q3 q4)) | (go_at_call 50; go_must (refine (Close w2 g w.heap.size _ _ _ Q3.out).mono ?_; rintro e w3 ⟨lv2, rfl, r1, r2, r3⟩; obtain ⟨A2, c2, rfl, hc2, hC2⟩ := Kd.R_reads r1; have R1 := Aside0.mk hC2; have R3 := Aside0.mk r3; clear r1 r2 r3 hC2)) | (at_builtin; go_must (refine Kd.R_append_rows k103 (Rr := k103.K w3) (w0 := w3) w.heap.size rfl (.tmp 7) (.tmp 9) 74 TP (.agg #[.int .i32 0, .int .i64 0, .int .i64 0]) 24 rfl Tryd.underlying74 info_P rfl (by decide) (by decide) lv (dc bs 0).1 (rest1 (dc bs 0).2.1 (dc bs 0).2.2) A2 _ c2 (fun _ => True) (fun _ => False) rfl rfl ?ho R1.out (fun x cs h => k72_KM x cs h) (fun _ h => h.elim) (fun _ _ => trivial) (Below.refl _ _) ?hb ?hl ?hh)))
  case ho =>
    have hg := P1.out.lt.1; have h1 := Kd.R_bound Q2.out; exact Kd.R_mono (Kd.R_lower (R_chg h1 R3.out (fun k hk he => by have := hk.2.1; omega)) P2.out.size) (fun _ _ => trivial)
  case hb => have h1 := P2.out.size; have h2 := Q4.out.size; have h3 := R3.out.size; omega
  case hl =>
    have h1 := dc_len bs 0; have h2 := dc_rest bs 0; (have h3 : (rest1 (dc bs 0).2.1 (dc bs 0).2.2).length ≤ 1 := by unfold rest1; split <;> simp); have h4 := HBN.out; omega
  case hh =>
    intro v1 w4 hR hb4 hg4 hat4; have hfull : (dc bs 0).1 ++ rest1 (dc bs 0).2.1 (dc bs 0).2.2 = full bs := rfl; rw [hfull] at hR; obtain ⟨A5, c5, rfl, hc5, hC5⟩ := Kd.R_reads hR; have HR := Aside0.mk hR; have HB4 := Aside0.mk hb4; clear hR hb4 hg4 hat4 hC5 hfull; have hL := HR.out; obtain ⟨L, hLL⟩ : ∃ L, L = (full bs).length := ⟨_, rfl⟩; rw [← hLL]; have HLL := Aside0.mk hLL; clear hLL hL; go_wp2; go_ret; have e := HLL.out; subst e; refine ⟨A5, c5, rfl, hc5, HR.out, ?_⟩; have b2 : Below w.heap.size w w2 := Q4.out.below_of P2.out (fun b hb => by rw [hb]; exact P0.out); have b3 : Below w.heap.size w w3 := R3.out.below_of b2 (fun b hb => by rw [hb]; exact P0.out); exact b3.trans HB4.out
end Go.Proofs.YthffpkdadffinaaDoor.Ud
namespace Go.Proofs.YthffpkdadffinaaDoor.X
set_option linter.unusedVariables false
set_option linter.unusedSimpArgs false
open Go.RowKit YthffpkdadffinaaDoorW.PrintWords YthffpkdadffinaaDoorW.PrintLast YthffpkdadffinaaDoorW.PrintMore Ux Ud
def runesOf (s : ByteArray) : List Int := (full (bytesOf s)).map (·.f0)
def norm_Runes.f (a0 : ByteArray) : Option (List Int) := if a0.size ≤ 1000000000 then some (runesOf a0) else none
theorem bytesOf_Bytes (s : ByteArray) : Bytes (bytesOf s) := fun x hx => by
  unfold bytesOf at hx; obtain ⟨b, _, rfl⟩ := List.mem_map.1 hx; have := b.toNat_lt; omega
set_option maxHeartbeats 8000000 in
set_option maxRecDepth 100000 in
theorem norm_Runes.calls (a0 : ByteArray) (r : List Int) (w : World) (h : norm_Runes.f a0 = some r) :
    Calls Tryd.prog 72 #[.string a0] w fun e w' => ∃ v0_ : Value, e = .returned (v0_) ∧ Kd.R (Kd.int .i32) 21 w' w.heap.size (fun _ => True) v0_ r ∧ Below w.heap.size w w' := by
  unfold norm_Runes.f at h; split at h
  case isFalse => exact absurd h (by simp)
  case isTrue hl =>
    have h := Option.some.inj h; have HR := Aside0.mk h.symm; (have hl2 : a0.size ≤ 9223372036854775807 := by omega); have HL := Aside0.mk hl; have HL2 := Aside0.mk hl2; clear h hl hl2; (have kb := fun W => print_bytes (P := Tryd.prog) 9 23 5 Tryd.underlying9 Tryd.underlying23 Tryd.underlying5 a0 W); have HB := Aside0.mk (Below.refl w.heap.size w); go_enter Tryd.func72, Tryd.ntmps72; go_wp2_with (first | (go_at_call 93; go_must (refine (Decode (Lib.bytesWorld w 5 a0) _ _ _ (bytesOf a0) (bytes_reads w 5 a0 HL2.out) (bytesOf_Bytes a0) HL.out).mono ?_; rintro e w1 ⟨A, c, rfl, p0, p1, p2⟩; have HC := Aside0.mk p0; have HO := Aside0.mk (Kd.R_lower p1 (bytes_below (Below.refl w.heap.size w) (Nat.le_refl _) 5 a0).size); have HB1 := Aside0.mk ((bytes_below (Below.refl w.heap.size w) (Nat.le_refl _) 5 a0).trans (p2.mono (bytes_below (Below.refl w.heap.size w) (Nat.le_refl _) 5 a0).size)); clear p0 p1 p2))); have hlen : (full (bytesOf a0)).length ≤ 1000000000 := Nat.le_trans (full_len _) (by rw [bytesOf_length]; exact HL.out); have HLN := Aside0.mk hlen; obtain ⟨ps, hps⟩ : ∃ ps, ps = full (bytesOf a0) := ⟨_, rfl⟩; rw [← hps] at HC HO HLN ⊢; have HR2 := Aside0.mk (show r = ps.map (·.f0) by rw [HR.out, hps]; rfl); clear hps HR hlen; go_loopw [3, 10] (fun v3 v10 w' => ∃ (i : Nat) (xs : List Int), v10 = .int .i64 i ∧ i ≤ ps.length ∧ Aside0 (xs = (ps.take i).map (·.f0)) ∧ Aside0 (Kd.R (Kd.int .i32) 21 w' w.heap.size (fun _ => True) v3 xs) ∧ Aside0 (Kd.R k103 103 w' w.heap.size (fun _ => True) (.slice A ps.length c) ps) ∧ Aside0 (Below w.heap.size w w')) (fun _ v10 _ => ps.length - (intOf v10).toNat)
    case atStart => exact ⟨0, [], rfl, Nat.zero_le _, ⟨by simp⟩, ⟨Kd.R_nil _ _ _ _ _⟩, HO, HB1⟩
    case round =>
      clear HO HB1; obtain ⟨i, xs, rfl, hi, HX, HO_3, HO_4, HB1⟩ := hrel; by_cases hlt : i < ps.length
      · have hd : decide ((i : Int) < (ps.length : Int)) = true := decide_eq_true (by omega); have hd2 : decide (i < ps.length) = true := decide_eq_true hlt; obtain ⟨ad, rfl, h1, h2, h3⟩ := at_T103 (Kd.R_reads' HO_4.out).2.2 (i : Int) (by omega) (by omega); (have hrd : rd_T103 ps (i : Int) = ps[i] := by unfold rd_T103; simp [List.getD_eq_getElem?_getD, List.getElem?_eq_getElem hlt]); rw [hrd] at h1 h2 h3; simp only [Int.toNat_natCast] at h1 h2 h3; have hpl := HLN.out; (have hn0 : (0 : Int) ≤ (i : Int) := by omega); (have hn1 : (i : Int) < (ps.length : Int) := by omega); obtain ⟨y, hy⟩ : ∃ y : List Int, y = xs ++ [ps[i].f0] := ⟨_, rfl⟩; have HY := Aside0.mk hy; have LM := Aside0.mk (show xs.length < 35184372088832 by have := HLN.out; rw [HX.out, List.length_map, List.length_take]; omega); have HXl := Aside0.mk (show y = (ps.take (i + 1)).map (·.f0) by rw [hy, HX.out, List.take_succ_eq_append_getElem hlt, List.map_append]; rfl); clear hy hrd; go_wp2_with (first | (at_builtin; go_must (refine Kd.R_append (Kd.int .i32) (w0 := w) w.heap.size rfl (.tmp 14) (.tmp 17) 42 21 (.int .i32 0) 4 rfl Tryd.underlying42 info21 rfl (by decide) (by omega) u3 xs (ps[i].f0) [.int .i32 (ps[i].f0)] (fun _ => True) (fun _ => False) rfl (congrArg (fun k => Value.slice (some ⟨k, 0, none⟩) 1 1) (Array.size_push _).symm) ?aP (fun _ hk => hk.elim) ?aF ?aO ?aB ?aS ?aL ?_; (case aP => exact rfl); (case aB => exact (by repeat (first | (with_reducible first | exact HB1.out | apply below_alloc | apply pw_below_drewN | apply below_drew1) | exact HB1.out))); (case aF => exact (fun _ _ => trivial)); (case aO => exact (by (with_reducible repeat (first | apply Kd.R_alloc | apply Kd.R_drewN | apply Kd.R_drew)); exact HO_3.out)); (case aS => exact (below_size (by repeat (first | (with_reducible first | exact HB1.out | apply below_alloc | apply pw_below_drewN | apply below_drew1) | exact HB1.out)))); (case aL => have := LM.out; omega); intro v287 w8 ho hb hg hat; rw [← HY.out] at ho; have n0_ := Aside0.mk (Kd.R_over' (by (with_reducible repeat (first | apply Kd.R_alloc | apply Kd.R_drewN | apply Kd.R_drew)); exact HO_4.out) (Kd.R_typed (by (with_reducible repeat (first | apply Kd.R_alloc | apply Kd.R_drewN | apply Kd.R_drew)); exact HO_3.out)) (by decide) hg); have n1_ := Aside0.mk (hb); have n2_ := Aside0.mk (ho); clear HO_4; clear HB1; clear HO_3; have HO_4 := n0_; have HB1 := n1_; have HO288 := n2_; clear n0_ n1_ n2_; clear ho hb hg hat))); go_roundw
        case rel => exact ⟨i + 1, y, by first | go_num | (rw [show wrap64 ((i : Int) + 1) = ((i + 1 : Nat) : Int) by rw [wrap64_in] <;> omega]), by omega, HXl, HO288, HO_4, HB1⟩
        case measure => simp [intOf] <;> omega
      · have hd : decide ((i : Int) < (ps.length : Int)) = false := decide_eq_false (by omega); have hd2 : decide (i < ps.length) = false := decide_eq_false hlt; go_wp2; go_ret; refine ⟨_, rfl, ?_, HB1.out⟩; have h := HX.out; rw [show i = ps.length by omega, List.take_length] at h; rw [HR2.out, ← h]; exact HO_3.out
end Go.Proofs.YthffpkdadffinaaDoor.X
namespace Go.Proofs.YthffpkdadffinaaDoor.X
open Go.RowKit YthffpkdadffinaaDoorW.PrintWords YthffpkdadffinaaDoorW.PrintLast YthffpkdadffinaaDoorW.PrintMore
attribute [local go_sem] max2_int min2_int max_two min_two max_three min_three max_four min_four   
set_option linter.unusedVariables false
set_option linter.unusedSimpArgs false
def tremaref01_Runes.l0 : Nat → List Int → List (S103) → Int → Option (List Int)
 | 0, _, _, _ => none
 | k + 1, x3, x4, x5 => if x5 < (x4.length : Int) then (if 0 ≤ x5 then (if x3.length < 35184372088832 then (tremaref01_Runes.l0 k (x3 ++ [(rd_T103 x4 x5).f0]) x4 (wrap64 (x5 + 1))) else (none)) else (none)) else (some x3)
def tremaref01_Runes.f (k : Nat) (l0 : List Int) : Option (List Int) := (tremaref01_Decode.f k l0 false).bind fun t182 => (tremaref01_Runes.l0 k ([] : List Int) t182 0)
theorem tremaref01_Runes.mono_l : ∀ k, (∀ y0 y1 y2, LeO (tremaref01_Runes.l0 k y0 y1 y2) (tremaref01_Runes.l0 (k + 1) y0 y1 y2))
 | 0 => fun _ _ _ r h => by simp [tremaref01_Runes.l0] at h
 | k + 1 => by
  have ih0 := tremaref01_Runes.mono_l k
  ·intro y0 y1 y2; unfold tremaref01_Runes.l0; repeat' first | (with_reducible exact ih0 _ _ _) | (with_reducible exact tremaref01_Decode.mono _ _ _) | (with_reducible exact LeO.refl _) | (with_reducible exact LeO.none _) | (with_reducible refine LeO.ite ?_ ?_) | (with_reducible refine LeO.bind ?_ (fun _ => ?_)) | exact ih0 _ _ _ | exact tremaref01_Decode.mono _ _ _ | exact LeO.none _ | refine LeO.ite ?_ ?_ | refine LeO.bind ?_ (fun _ => ?_)
theorem tremaref01_Runes.mono : ∀ a0 k, LeO (tremaref01_Runes.f k a0) (tremaref01_Runes.f (k + 1) a0) := by
 intro a0 k; have ih0 := tremaref01_Runes.mono_l k; unfold tremaref01_Runes.f; repeat' first | (with_reducible exact ih0 _ _ _) | (with_reducible exact tremaref01_Decode.mono _ _ _) | (with_reducible exact LeO.refl _) | (with_reducible exact LeO.none _) | (with_reducible refine LeO.ite ?_ ?_) | (with_reducible refine LeO.bind ?_ (fun _ => ?_)) | exact ih0 _ _ _ | exact tremaref01_Decode.mono _ _ _ | exact LeO.none _ | refine LeO.ite ?_ ?_ | refine LeO.bind ?_ (fun _ => ?_)
set_option maxHeartbeats 8000000 in
set_option maxRecDepth 100000 in
theorem tremaref01_Runes.calls (k : Nat) (A0 : Option Addr) (c0 : Nat) (l0 : List Int) (r : List Int) (w : World) (hr0 : Kd.C (Kd.int .u8) w A0 l0.length l0) (hc0 : l0.length ≤ c0) (h : tremaref01_Runes.f k l0 = some r) :
  Calls Tryd.prog 36 #[.slice A0 l0.length c0] w fun e w' => ∃ v0_ : Value, e = .returned (v0_) ∧ Kd.R (Kd.int .i32) 21 w' w.heap.size (fun _ => True) v0_ r ∧ Below w.heap.size w w' := by
 have HR0 := Aside0.mk hr0; have HC0 := Aside0.mk hc0; clear hr0 hc0; have HB := Aside0.mk (Below.refl w.heap.size w); have H : ((tremaref01_Decode.f k l0 false).bind fun t182 => (tremaref01_Runes.l0 k ([] : List Int) t182 0)) = some r := h; clear h; replace H := Option.bind_eq_some_iff.mp H; obtain ⟨t182, A20, H⟩ := H; (try dsimp only at H); have A2 := Aside0.mk A20; clear A20; have H' := Aside0.mk H; clear H; go_enter Tryd.func36, Tryd.ntmps36; go_wp2_with (first | ((with_reducible refine gate_callee (f := 47) rfl ?_); refine goesL_ (some 7) rfl rfl Tryd.func47 (by kernel_rfl) rfl #[.slice A0 l0.length c0, .bool false] rfl (by (try simp only [List.map_toArray, List.map_cons, List.map_nil]); first | done | rfl | (simp only [List.length_drop, List.length_take]; rfl)) ?_; (with_reducible refine (tremaref01_Decode.calls k _ _ l0 false t182 _ ?side1 ?side2 A2.out).mono ?_); (case side1 => repeat (first | exact HR0.out | (with_reducible refine Kd.C_alloc ?_ _) | (with_reducible refine Kd.C_drewN ?_ _) | (with_reducible refine Kd.C_drew ?_))); (case side2 => exact HC0.out); rintro e w3 ⟨v183, rfl, ho0, hb⟩; refine ⟨_, rfl, ?_⟩; have n0_ := Aside0.mk (Kd.R_lower ho0 (below_size (by repeat (first | (with_reducible first | exact HB.out | apply below_alloc | apply pw_below_drewN | apply below_drew1) | exact HB.out)))); have n1_ := Aside0.mk (below_step (by repeat (first | (with_reducible first | exact HB.out | apply below_alloc | apply pw_below_drewN | apply below_drew1) | exact HB.out)) hb); clear HB; have HO184 := n0_; have HB := n1_; clear n0_ n1_; (try clear hb); (try clear hb2); (try clear hk); (try clear hi); (try clear ho0))); go_loopg [3, 5] k (fun kq v3 v5 w' => ∃ (x3_1 : List Int) (x5_1 : Int), v5 = .int .i64 x5_1 ∧ Aside0 (tremaref01_Runes.l0 kq x3_1 t182 x5_1 = some r) ∧ Aside0 (kq ≤ k) ∧ Aside0 (Kd.R (Kd.int .i32) 21 w' w.heap.size (fun _ => True) v3 x3_1) ∧ Aside0 (Kd.R k103 103 w' w.heap.size (fun _ => True) v183 t182) ∧ Aside0 (Below w.heap.size w w'))
 case atStart => exact ⟨(([] : List Int)), (0), (by first | rfl | (simp; done) | (simp [*]; done)), H', ⟨Nat.le_refl _⟩, ⟨by first | exact Kd.R_nil _ _ _ _ _ | exact Kd.N_nil _ _ _ _ _ | exact Kd.V_nil _ _ _ _ _ | exact Kd.Q_nil _ _ _ _ _ | exact Kd.S_nil _ _ _ _ _⟩, ⟨by (with_reducible repeat (first | apply Kd.R_alloc | apply Kd.R_drewN | apply Kd.R_drew)); exact HO184.out⟩, ⟨by repeat (first | (with_reducible first | exact HB.out | apply below_alloc | apply pw_below_drewN | apply below_drew1) | exact HB.out)⟩⟩
 case round =>
  clear H'; (try clear p2); (try clear c3); obtain ⟨x3_1, x5_1, rfl, HA, HK1, HO_3, HO_4, HB⟩ := hrel
  cases gk with
  | zero => exact absurd HA.out (by simp [tremaref01_Runes.l0])
  | succ k1 =>
   have H := HA.out; clear HA; simp only [tremaref01_Runes.l0] at H; by_cases c4 : x5_1 < (t182.length : Int)
   ·rw [if_pos c4] at H; have c4b0 : decide (x5_1 < (t182.length : Int)) = true := decide_eq_true c4; clear c4; by_cases c5 : 0 ≤ x5_1
    ·rw [if_pos c5] at H; have c5b0 : decide (0 ≤ x5_1) = true := decide_eq_true c5; clear c5; by_cases c6 : x3_1.length < 35184372088832
     ·rw [if_pos c6] at H; have LMc6 := Aside0.mk c6; clear c6; obtain ⟨y186, hy186⟩ : ∃ y_ : List Int, y_ = (x3_1 ++ [(rd_T103 t182 x5_1).f0]) := ⟨_, rfl⟩; (replace H : (tremaref01_Runes.l0 k1 y186 t182 (wrap64 (x5_1 + 1))) = some r := by first | (rw [hy186]; with_reducible exact H) | (have H2_ := (Option.bind_some _ _).symm.trans H; rw [hy186]; with_reducible exact H2_) | (have H2_ := (Option.bind_some _ _).symm.trans H; with_reducible exact H2_) | with_reducible exact H | (rw [hy186]; exact H) | exact H); have Ny186 := Aside0.mk hy186; clear hy186; have H' := Aside0.mk H; clear H; obtain ⟨Ao7, co7, eo7⟩ := Kd.R_slice HO_4.out; subst eo7; have p185 : 0 ≤ (x5_1 : Int) := of_decide_eq_true (by first | (with_reducible assumption) | assumption); have q185 : x5_1 < (t182.length : Int) := of_decide_eq_true (by first | (with_reducible assumption) | assumption); obtain ⟨ad185, e185, hx185_0, hx185_1, hx185_2⟩ := at_T103 (Kd.R_reads' HO_4.out).2.2 x5_1 p185 q185; cases e185; replace p185 := eq_true p185; replace q185 := eq_true q185; go_wp2_with (first | ((with_reducible refine gate_builtin (b := .append) (xs := #[.tmp 14, .tmp 20]) rfl ?_); at_builtin; refine Kd.R_append (Kd.int .i32) (w0 := w) w.heap.size rfl (.tmp 14) (.tmp 20) 42 21 (.int .i32 0) 4 rfl Tryd.underlying42 info21 rfl (by decide) (by omega) u3 x3_1 ((rd_T103 t182 x5_1).f0) [.int .i32 ((rd_T103 t182 x5_1).f0)] (fun _ => True) (fun _ => False) rfl rfl ?aP (fun _ hk => hk.elim) ?aF ?aO ?aB ?aS ?aL ?_; (case aP => exact rfl); (case aB => exact (by repeat (first | (with_reducible first | exact HB.out | apply below_alloc | apply pw_below_drewN | apply below_drew1) | exact HB.out))); (case aF => exact (fun _ _ => trivial)); (case aO => exact (by (with_reducible repeat (first | apply Kd.R_alloc | apply Kd.R_drewN | apply Kd.R_drew)); exact HO_3.out)); (case aS => exact (below_size (by repeat (first | (with_reducible first | exact HB.out | apply below_alloc | apply pw_below_drewN | apply below_drew1) | exact HB.out)))); (case aL => have := LMc6.out; omega); intro v187 w8 ho hb hg hat; rw [← Ny186.out] at ho; have n0_ := Aside0.mk (Kd.R_over' (by (with_reducible repeat (first | apply Kd.R_alloc | apply Kd.R_drewN | apply Kd.R_drew)); exact HO_4.out) (Kd.R_typed (by (with_reducible repeat (first | apply Kd.R_alloc | apply Kd.R_drewN | apply Kd.R_drew)); exact HO_3.out)) (by decide) hg); have n1_ := Aside0.mk (hb); have n2_ := Aside0.mk (ho); clear HO_4; clear HB; clear HO_3; have HO_4 := n0_; have HB := n1_; have HO188 := n2_; clear n0_ n1_ n2_; clear ho hb hg hat)); go_roundg k1
      case measure => have := HK1.out; omega
      case rel => exact ⟨(y186), (wrap64 (x5_1 + 1)), (by first | rfl | (simp; done) | (simp [*]; done)), H', ⟨by have := HK1.out; omega⟩, ⟨by (with_reducible repeat (first | apply Kd.R_alloc | apply Kd.R_drewN | apply Kd.R_drew)); exact HO188.out⟩, ⟨by (with_reducible repeat (first | apply Kd.R_alloc | apply Kd.R_drewN | apply Kd.R_drew)); exact HO_4.out⟩, ⟨by repeat (first | (with_reducible first | exact HB.out | apply below_alloc | apply pw_below_drewN | apply below_drew1) | exact HB.out)⟩⟩
     ·rw [if_neg c6] at H; exact absurd H (by simp)
    ·rw [if_neg c5] at H; exact absurd H (by simp)
   ·rw [if_neg c4] at H; have c4b0 : decide (x5_1 < (t182.length : Int)) = false := decide_eq_false c4; clear c4; obtain rfl := Option.some.inj H; obtain ⟨Ao9, co9, eo9⟩ := Kd.R_slice HO_4.out; subst eo9; go_wp2; go_ret; exact ⟨_, by first | rfl | (simp [errW_none, errW_some] <;> rfl) | (simp [*, errW_none, errW_some] <;> rfl), by (with_reducible repeat (first | apply Kd.R_alloc | apply Kd.R_drewN | apply Kd.R_drew)); exact HO_3.out, by repeat (first | (with_reducible first | exact HB.out | apply below_alloc | apply pw_below_drewN | apply below_drew1) | exact HB.out)⟩
end Go.Proofs.YthffpkdadffinaaDoor.X
namespace Go.Proofs.YthffpkdadffinaaDoor.Ot
set_option linter.unusedVariables false
set_option linter.unusedSimpArgs false
open Go.RowKit YthffpkdadffinaaDoorW.PrintWords Ev0 X Ux Va Ve Vp0 Vr Vu Na Oa Ob
theorem wf_bytes {xs : List Int} (h : ∀ x, x ∈ xs → (Lit.int .u8 x).wf = true) : Bytes xs := fun x hx => by
  have := h x hx
  simpa [Lit.wf, IntKind.min, IntKind.max, IntKind.signed, IntKind.bits] using this
theorem bytes_str (l : List Int) (hb : Bytes l) : bytesOf (strOfNums l) = l := by
  unfold bytesOf; rw [strOfNums_data, List.map_map]
  conv => rhs; rw [← List.map_id l]
  (refine List.map_congr_left fun x hx => ?_); have := hb x hx; (show (((UInt8.ofNat x.toNat).toNat : Nat) : Int) = x); rw [UInt8.toNat_ofNat']; omega
theorem cont_range : ∀ (bs : List (Int × Int)) (t : List Int) (r i : Int), 0 ≤ r → 0 ≤ (cont bs t r i).1 ∧ ((cont bs t r i).1 = 65533 ∨ (cont bs t r i).1 < (r + 1) * 64 ^ bs.length)
  | [], t, r, i, h => by simp only [cont, List.length_nil, Int.pow_zero, Int.mul_one]; omega
  | b :: bs, [], r, i, h => ⟨show (0 : Int) ≤ 65533 by decide, .inl rfl⟩
  | (lo, hi) :: bs, x :: t, r, i, h => by
    simp only [cont]; split
    · exact ⟨show (0 : Int) ≤ 65533 by decide, .inl rfl⟩
    · (have hx : 0 ≤ x % 64 ∧ x % 64 < 64 := by omega); have h1 := cont_range bs t (r * 64 + x % 64) (i + 1) (by omega); refine ⟨h1.1, h1.2.imp id fun h2 => Int.lt_of_lt_of_le h2 ?_⟩; rw [List.length_cons, Int.pow_succ, Int.mul_comm (64 ^ bs.length) 64, ← Int.mul_assoc]; exact Int.mul_le_mul_of_nonneg_right (by omega) (Int.le_of_lt (Int.pow_pos (by decide)))
theorem one1_32 (c : Int) (t : List Int) (hc : 0 ≤ c ∧ c ≤ 255) : I32 (one1 c t).1 := by
  unfold one1 I32
  cases h : bnd c with
  | none => simp
  | some bs =>
    have hl := bnd_len h; (have hs : 0 ≤ st c ∧ st c ≤ 127 := by unfold st; repeat' split <;> omega); have h1 := cont_range bs t (st c) 1 hs.1
    have h2 : (st c + 1) * 64 ^ bs.length ≤ 128 * 64 ^ 3 := by
      refine Int.mul_le_mul (by omega) ?_ (Int.le_of_lt (Int.pow_pos (by decide))) (by decide)
      have : (64 : Int) ^ bs.length ≤ 64 ^ 3 := by
        rcases (show bs.length = 0 ∨ bs.length = 1 ∨ bs.length = 2 ∨ bs.length = 3 by omega) with e | e | e | e <;> rw [e] <;> decide
      exact this
    (have h3 : (128 : Int) * 64 ^ 3 = 33554432 := by decide); rw [h3] at h2; (show -2147483648 ≤ (cont bs t (st c) 1).1 ∧ (cont bs t (st c) 1).1 ≤ 2147483647); omega
theorem dec_32 : ∀ (k : Nat) (b : List Int) (p : Int), Bytes b → ∀ y ∈ (dec k b p).1, I32 y.f0
  | 0, b, p, _, y, hy => by simp [dec] at hy
  | k + 1, [], p, _, y, hy => by simp [dec] at hy
  | k + 1, c :: t, p, hb, y, hy => by
    have hc := hb c (List.mem_cons_self ..); simp only [dec] at hy; split at hy
    · simp at hy
    · rcases List.mem_cons.1 hy with rfl | hy
      · exact one1_32 c t hc
      · exact dec_32 k _ _ (fun x hx => hb x (List.mem_of_mem_drop hx)) y hy
theorem runes32 (l : List Int) (hb : Bytes l) : ∀ x ∈ (full l).map (·.f0), I32 x := by
  intro x hx; obtain ⟨y, hy, rfl⟩ := List.mem_map.1 hx; rcases List.mem_append.1 hy with hy | hy
  · exact dec_32 _ _ _ hb y hy
  · unfold rest1 at hy; split at hy
    · simp at hy
    · rw [List.mem_singleton.1 hy]; show -2147483648 ≤ (65533 : Int) ∧ (65533 : Int) ≤ 2147483647; decide
def rns (l : List Int) : List Int := (full l).map (·.f0)
theorem runesEv (l : List Int) (hb : Bytes l) (hl : l.length ≤ 1000000000) : Ev (fun k => tremaref01_Runes.f k l) (rns l) := by
  have hfl := Ud.full_len l; unfold tremaref01_Runes.f; have hd := Ref_dec l hb (by omega) false; refine Ev.bind (Ev.of (tremaref01_Decode.mono l false) hd) ?_; obtain ⟨P, hP⟩ : ∃ P, P = full l := ⟨_, rfl⟩; (have e : (dc l 0).1 ++ (if false = true then [] else rest1 (dc l 0).2.1 (dc l 0).2.2) = P := by rw [hP]; rfl); rw [e]; unfold rns; rw [← hP] at hfl ⊢
  have key : ∀ q i : Nat, i + q = P.length → Ev (fun k => tremaref01_Runes.l0 k ((P.take i).map (·.f0)) P (i : Int)) (P.map (·.f0)) := by
    intro q
    induction q with
    | zero =>
      intro i hi; obtain rfl : i = P.length := hi; refine Ev.step (fun k => tremaref01_Runes.l0.eq_2 ..) ?_; simp only [if_neg (Int.lt_irrefl _), List.take_length]; exact Ev.now _
    | succ q ih =>
      intro i hi; (have hil : i < P.length := by omega); have ih := ih (i + 1) (by omega); rw [List.take_succ_eq_append_getElem hil, List.map_append] at ih; (have hr : rd_T103 P (i : Int) = P[i] := by unfold rd_T103; simp [List.getD_eq_getElem?_getD, List.getElem?_eq_getElem hil]); refine Ev.step (fun k => tremaref01_Runes.l0.eq_2 ..) ?_; simp only [if_pos (show (i : Int) < (P.length : Int) by omega), if_pos (show (0 : Int) ≤ (i : Int) by omega), hr, if_pos (show ((P.take i).map (·.f0)).length < 35184372088832 by rw [List.length_map, List.length_take]; omega), w64 (i := i) (by omega)]; exact ih
  exact key P.length 0 (by omega)
end Go.Proofs.YthffpkdadffinaaDoor.Ot
namespace Go.Proofs.YthffpkdadffinaaDoor.Sga
set_option linter.unusedVariables false
set_option linter.unusedSimpArgs false
open Go.Proofs.YthffpkdadffinaaDoor.Vd (decU)
open Go.Proofs.YthffpkdadffinaaDoor.Fr (K3 T3)
open Go.Proofs.YthffpkdadffinaaDoor.En (enc enc_pure enc_len enc_byte)
open Go.RowKit YthffpkdadffinaaDoorW.PrintWords Hp Fm X Va Oa Vp0 Cn
abbrev TS : Nat := 72
abbrev TG : Nat := 67
abbrev KB : Kd Int := Kd.int .u8
abbrev kG := k67
def txt (o : List Int) : ByteArray := strOfNums (enc (nrm o))
theorem EncR (w : World) (A : Option Addr) (n c : Nat) (l : List Int) (hC : K3.C w A n l) (hn : n = l.length) (hc : n ≤ c) (hl : n ≤ 1000000000) :
    Calls Tryd.prog 73 #[.slice A n c] w fun e w' => ∃ A' m c', e = .returned (.slice A' m c') ∧ m = (enc l).length ∧ m ≤ c' ∧ KB.C w' A' m (enc l) ∧ Below w.heap.size w w' := by
  subst hn; refine (utf_Encode.calls (2 * l.length + 1) A c l (enc l) w hC hc (enc_pure l (by omega))).mono ?_; rintro e w' ⟨v, rfl, p1, p2⟩; obtain ⟨A', c', rfl, hc', hC'⟩ := Kd.R_reads p1; exact ⟨A', _, c', rfl, rfl, hc', hC', p2⟩
def segCells (gd : Nat) (lim : Int) (ov : Value) (a e : Int) (cl : Bool) (er : Int) : Array Value := #[.pointer (some ⟨gd, 0, none⟩), .int .i64 lim, ov, .int .i64 a, .int .i64 e, .bool cl, .int .i64 er]
set_option maxRecDepth 100000 in
set_option maxHeartbeats 4000000 in
theorem WholeP (w : World) (hG : G w) (g gd : Nat) (lim a e er : Int) (cl : Bool) (A : Option Addr) (n c : Nat) (o : List Int) (hb : w.heap[g]? = some (.cells (segCells gd lim (.slice A n c) a e cl er) TS (0, 0))) (hC : K3.C w A n o) (hn : n = o.length) (hc : n ≤ c) (hwf : ∀ x ∈ o, I32 x) (hl : n ≤ 60000000) :
    Calls Tryd.prog 51 #[.pointer (some ⟨g, 0, none⟩)] w fun E w' => E = .returned (.agg #[.string (txt o), .int .i64 a, .int .i64 e]) ∧ Below w.heap.size w w' := by
  have hnl := nrm_len3 o hwf; obtain ⟨q, hq⟩ : ∃ q, q = (nrm o).length := ⟨_, rfl⟩; (have hq5 : q ≤ 180000000 := by omega); have HQ := Aside0.mk hq; have HN := Aside0.mk hn; have HG := Aside0.mk hG; have HC := Aside0.mk hC; have HWF := Aside0.mk hwf; have HB := Aside0.mk hb; clear hq hn hG hC hwf hb hnl; go_enter Tryd.func51, Tryd.ntmps51; go_upto_region 1 with (fail); obtain ⟨w1, hw1⟩ : ∃ w1, w1 = w.alloc (.cells #[.string ⟨#[]⟩, .int .i64 0, .int .i64 0] TG) := ⟨_, rfl⟩; have HB1 := Aside0.mk (show Below w.heap.size w w1 by rw [hw1]; exact below_alloc (Below.refl _ _) _); have HN1 := Aside0.mk (show w1.heap[w.heap.size]? = some (.cells #[.string ⟨#[]⟩, .int .i64 0, .int .i64 0] TG (0, 0)) by rw [hw1]; exact heap_alloc_new w _); rw [← hw1]; obtain ⟨r, hr⟩ : ∃ r, r = w.heap.size := ⟨_, rfl⟩; rw [← hr] at HN1 ⊢; have HR := Aside0.mk hr; clear hw1 hr; have HD := Aside0.mk (((Drawn0.refl w1).step 1).below); refine wp_region_held_drew (S := fun W => Below w.heap.size w W) (by kernel_rfl) (below_step HB1.out HD.out) (fun hS => ?_); have HL := Aside0.mk (show ∀ W, Below w.heap.size w W → W.heap[g]? = some (.cells (segCells gd lim (.slice A n c) a e cl er) TS (0, 0)) from fun W h => blk_below HB.out h); refine wpAnyH_take (i := 0) (oi := { dst := some 3, op := _, type := _, pos := _, after := _, guard := _ }) (v := .pointer (some ⟨g, 0, none⟩)) rfl (by kernel_rfl) (by kernel_rfl) (by kernel_rfl) (fun _ _ _ h => h) (Or.inl ⟨by rfl, fun W hW => ?_⟩) hS ?_
  · (go_simp)
  (try simp only [Act.put, List.setIfInBounds_toArray, List.set_cons_zero, List.set_cons_succ]); refine wpAnyH_take (i := 1) (oi := { dst := some 4, op := _, type := _, pos := _, after := _, guard := _ }) (v := .pointer (some ⟨g, 0, none⟩)) rfl (by kernel_rfl) (by kernel_rfl) (by kernel_rfl) (fun _ _ _ h => h) (Or.inl ⟨by rfl, fun W hW => ?_⟩) hS ?_
  · (go_simp)
  (try simp only [Act.put, List.setIfInBounds_toArray, List.set_cons_zero, List.set_cons_succ]); refine wpAnyH_take (i := 2) (oi := { dst := some 5, op := _, type := _, pos := _, after := _, guard := _ }) (v := .pointer (some ⟨g, 2, none⟩)) rfl (by kernel_rfl) (by kernel_rfl) (by kernel_rfl) (fun _ _ _ h => h) (Or.inl ⟨by rfl, fun W hW => ?_⟩) hS ?_
  · (go_simp)
  (try simp only [Act.put, List.setIfInBounds_toArray, List.set_cons_zero, List.set_cons_succ]); refine wpAnyH_take (i := 3) (oi := { dst := some 6, op := _, type := _, pos := _, after := _, guard := _ }) (v := .slice A n c) rfl (by kernel_rfl) (by kernel_rfl) (by kernel_rfl) (fun _ _ _ h => h) (Or.inl ⟨by rfl, fun W hW => ?_⟩) hS ?_
  · (have hcell := blk_cell (HL.out W hW) 2; simp only [segCells] at hcell; go_simp)
  (try simp only [Act.put, List.setIfInBounds_toArray, List.set_cons_zero, List.set_cons_succ]); refine wpAnyH_take (i := 7) (oi := { dst := some 10, op := _, type := _, pos := _, after := _, guard := _ }) (v := .pointer (some ⟨g, 0, none⟩)) rfl (by kernel_rfl) (by kernel_rfl) (by kernel_rfl) (fun _ _ _ h => h) (Or.inl ⟨by rfl, fun W hW => ?_⟩) hS ?_
  · (go_simp)
  (try simp only [Act.put, List.setIfInBounds_toArray, List.set_cons_zero, List.set_cons_succ]); refine wpAnyH_take (i := 8) (oi := { dst := some 11, op := _, type := _, pos := _, after := _, guard := _ }) (v := .pointer (some ⟨g, 0, none⟩)) rfl (by kernel_rfl) (by kernel_rfl) (by kernel_rfl) (fun _ _ _ h => h) (Or.inl ⟨by rfl, fun W hW => ?_⟩) hS ?_
  · (go_simp)
  (try simp only [Act.put, List.setIfInBounds_toArray, List.set_cons_zero, List.set_cons_succ]); refine wpAnyH_take (i := 9) (oi := { dst := some 12, op := _, type := _, pos := _, after := _, guard := _ }) (v := .pointer (some ⟨g, 3, none⟩)) rfl (by kernel_rfl) (by kernel_rfl) (by kernel_rfl) (fun _ _ _ h => h) (Or.inl ⟨by rfl, fun W hW => ?_⟩) hS ?_
  · (go_simp)
  (try simp only [Act.put, List.setIfInBounds_toArray, List.set_cons_zero, List.set_cons_succ]); refine wpAnyH_take (i := 10) (oi := { dst := some 13, op := _, type := _, pos := _, after := _, guard := _ }) (v := .int .i64 a) rfl (by kernel_rfl) (by kernel_rfl) (by kernel_rfl) (fun _ _ _ h => h) (Or.inl ⟨by rfl, fun W hW => ?_⟩) hS ?_
  · (have hcell := blk_cell (HL.out W hW) 3; simp only [segCells] at hcell; go_simp)
  (try simp only [Act.put, List.setIfInBounds_toArray, List.set_cons_zero, List.set_cons_succ]); refine wpAnyH_take (i := 11) (oi := { dst := some 14, op := _, type := _, pos := _, after := _, guard := _ }) (v := .pointer (some ⟨g, 0, none⟩)) rfl (by kernel_rfl) (by kernel_rfl) (by kernel_rfl) (fun _ _ _ h => h) (Or.inl ⟨by rfl, fun W hW => ?_⟩) hS ?_
  · (go_simp)
  (try simp only [Act.put, List.setIfInBounds_toArray, List.set_cons_zero, List.set_cons_succ]); refine wpAnyH_take (i := 12) (oi := { dst := some 15, op := _, type := _, pos := _, after := _, guard := _ }) (v := .pointer (some ⟨g, 0, none⟩)) rfl (by kernel_rfl) (by kernel_rfl) (by kernel_rfl) (fun _ _ _ h => h) (Or.inl ⟨by rfl, fun W hW => ?_⟩) hS ?_
  · (go_simp)
  (try simp only [Act.put, List.setIfInBounds_toArray, List.set_cons_zero, List.set_cons_succ]); refine wpAnyH_take (i := 13) (oi := { dst := some 16, op := _, type := _, pos := _, after := _, guard := _ }) (v := .pointer (some ⟨g, 4, none⟩)) rfl (by kernel_rfl) (by kernel_rfl) (by kernel_rfl) (fun _ _ _ h => h) (Or.inl ⟨by rfl, fun W hW => ?_⟩) hS ?_
  · (go_simp)
  (try simp only [Act.put, List.setIfInBounds_toArray, List.set_cons_zero, List.set_cons_succ]); refine wpAnyH_take (i := 14) (oi := { dst := some 17, op := _, type := _, pos := _, after := _, guard := _ }) (v := .int .i64 e) rfl (by kernel_rfl) (by kernel_rfl) (by kernel_rfl) (fun _ _ _ h => h) (Or.inl ⟨by rfl, fun W hW => ?_⟩) hS ?_
  · (have hcell := blk_cell (HL.out W hW) 4; simp only [segCells] at hcell; go_simp)
  (try simp only [Act.put, List.setIfInBounds_toArray, List.set_cons_zero, List.set_cons_succ]); refine wpAnyH_ready (rs := [4]) (by kernel_rfl) (by simp) ?_; refine AllReadyH.cons (o := { dst := some 7, op := _, type := _, pos := _, after := _, guard := _ }) rfl (fun K hK => ?_) AllReadyH.nil; go_simp
  (go_at_call 71)
  refine (NormR _ (HG.out.below hS) A n c o (Kd.C_below HC.out hS) HN.out hc HWF.out (by omega)).mono ?_; rintro E w2 ⟨v2, rfl, p1, p2⟩; obtain ⟨A2, c2, e2, hc2, hC2⟩ := Kd.R_reads p1; rw [← HQ.out] at e2 hc2 hC2; subst e2; have B2 := Aside0.mk (below_then HD.out HD.out.size p2); clear p1 p2; go_wp2_with fail; refine hK.out _ _ (below_step HB1.out B2.out) (fun hS2 => ?_); clear hK K hS; have hS := hS2; clear hS2; (try simp only [Act.put, List.setIfInBounds_toArray, List.set_cons_zero, List.set_cons_succ]); refine wpAnyH_ready (rs := [5]) (by kernel_rfl) (by simp) ?_; refine AllReadyH.cons (o := { dst := some 8, op := _, type := _, pos := _, after := _, guard := _ }) rfl (fun K hK => ?_) AllReadyH.nil; go_simp
  (go_at_call 73)
  refine (EncR _ A2 q c2 (nrm o) hC2 HQ.out hc2 (by omega)).mono ?_; rintro E w3 ⟨A3, m3, c3, rfl, p0, p1, p2, p3⟩; have B3 := Aside0.mk (below_then B2.out B2.out.size p3); have hcv := Sx.reads_string (P := Tryd.prog) (c := c3) Tryd.underlying23 Tryd.underlying5 Tryd.underlying9 (rdint p2); rw [show strOfNums (enc (nrm o)) = txt o from rfl] at hcv; clear p0 p1 p2 p3 B2 hC2; go_wp2_with fail; refine hK.out _ _ (below_step HB1.out B3.out) (fun hS2 => ?_); clear hK K hS; have hS := hS2; clear hS2; (try simp only [Act.put, List.setIfInBounds_toArray, List.set_cons_zero, List.set_cons_succ]); refine wpAnyH_ready (rs := [6]) (by kernel_rfl) (by simp) ?_; refine AllReadyH.cons (o := { dst := some 9, op := _, type := _, pos := _, after := _, guard := _ }) rfl (fun K hK => ?_) AllReadyH.nil; go_simp; refine hK.out _ _ hS (fun hS2 => ?_); clear hK K hS2 hcv; (try simp only [Act.put, List.setIfInBounds_toArray, List.set_cons_zero, List.set_cons_succ]); refine wpAnyH_take (i := 15) (oi := { dst := some 18, op := _, type := _, pos := _, after := _, guard := _ }) (v := .agg #[.string (txt o), .int .i64 a, .int .i64 e]) rfl (by kernel_rfl) (by kernel_rfl) (by kernel_rfl) (fun _ _ _ h => h) (Or.inl ⟨by rfl, fun W hW => ?_⟩) hS ?_
  · (go_simp)
  (try simp only [Act.put, List.setIfInBounds_toArray, List.set_cons_zero, List.set_cons_succ]); have hbk := blk_below HN1.out B3.out; have c0 := blk_cell hbk 0; have c1 := blk_cell hbk 1; have c2 := blk_cell hbk 2; have f0 := blk_frozen hbk 0; have f1 := blk_frozen hbk 1; have f2 := blk_frozen hbk 2; have k3 := blk_set (blk_set (blk_set hbk 0 (.string (txt o))) 1 (.int .i64 a)) 2 (.int .i64 e); have H3 := Aside0.mk k3
  have HS3 := Aside0.mk (show Below w.heap.size w (((w3.setCell ⟨r, 0, none⟩ (.string (txt o))).setCell ⟨r, 1, none⟩ (.int .i64 a)).setCell ⟨r, 2, none⟩ (.int .i64 e)) by
    have h1 := (Chg.of_below (below_step HB1.out B3.out) (S := fun b => b = r) (fun k h1 h2 => absurd h1 (by omega))); have hp : ∀ j : Nat, (fun b => b = r) (⟨r, j, none⟩ : Addr).block ∨ w.heap.size ≤ (⟨r, j, none⟩ : Addr).block := fun _ => .inl rfl
    exact (((h1.setCell (hp 0) _).setCell (hp 1) _).setCell (hp 2) _).below (fun k hk => ⟨hk, fun h => by have := HR.out; omega⟩))
  clear hbk k3; refine wpAnyH_ready (rs := [16]) (by kernel_rfl) (by simp) ?_; refine AllReadyH.cons (o := { dst := none, op := _, type := _, pos := _, after := _, guard := _ }) rfl (fun K hK => ?_) AllReadyH.nil; go_simp; refine hK.out _ _ HS3.out (fun hS2 => ?_); clear hK K hS hS2; refine wpAnyH_done (by kernel_rfl) ?_ _; have q0 := (blk_cell H3.out 0).trans (show _ = some (Value.string (txt o)) from rfl); have q1 := (blk_cell H3.out 1).trans (show _ = some (Value.int .i64 a) from rfl); have q2 := (blk_cell H3.out 2).trans (show _ = some (Value.int .i64 e) from rfl); clear c0 c1 c2 f0 f1 f2 H3 HL; generalize (((w3.setCell ⟨r, 0, none⟩ (.string (txt o))).setCell ⟨r, 1, none⟩ (.int .i64 a)).setCell ⟨r, 2, none⟩ (.int .i64 e)) = w4 at q0 q1 q2 HS3 ⊢; go_wp2; exact bodyPost_ret (v := .agg #[.string (txt o), .int .i64 a, .int .i64 e]) (by simp [results, Tryd.results51, go_sem, q0, q1, q2]) rfl ⟨rfl, HS3.out⟩
end Go.Proofs.YthffpkdadffinaaDoor.Sga
