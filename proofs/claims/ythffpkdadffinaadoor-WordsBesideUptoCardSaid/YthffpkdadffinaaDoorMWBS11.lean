/-
  Several texts of this claim in one: what its law's proof uses.
-/
import Derived.Test.YthffpkdadffinaaDoorMWBS10
import Derived.Test.YthffpkdadffinaaDoorMWBS9
import Derived.Test.YthffpkdadffinaaDoorMWBS2
import Derived.Test.YthffpkdadffinaaDoorMWBS6
import Derived.Test.YthffpkdadffinaaDoorMWBS4
import Derived.Test.YthffpkdadffinaaDoorMWBS8
import Derived.Lib.SlBytesConst
namespace Go.Proofs.YthffpkdadffinaaDoor.Sgc
set_option linter.unusedVariables false
set_option linter.unusedSimpArgs false
open Go.Proofs.YthffpkdadffinaaDoor.Vd (decU)
open Go.Proofs.YthffpkdadffinaaDoor.Ve (opn)
open Go.Proofs.YthffpkdadffinaaDoor.Fr (K3 T3)
open Go.Proofs.YthffpkdadffinaaDoor.Ux (Bytes one1 dc rest1 full dec)
open Go.Proofs.YthffpkdadffinaaDoor.Dc (decT)
open Go.RowKit YthffpkdadffinaaDoorW.PrintWords Hp Fm X Va Oa Vp0 Cn Sga Sgb
section
variable {w : World} {g gd : Nat} {lim a e er : Int} {ov : Value} {cl : Bool}
def ans (cl : Bool) (er : Int) : Int := if er = 0 then (if cl = true then 8 else 0) else er
theorem EndR (hb : w.heap[g]? = some (.cells (segCells gd lim ov a e cl er) TS (0, 0))) : Calls Tryd.prog 43 #[.pointer (some ⟨g, 0, none⟩)] w fun E w' => E = .returned (.int .i64 (ans cl er)) ∧ w = w' := by
  have c5 := blk_cell hb 5; have c6 := blk_cell hb 6; simp only [segCells] at c5 c6; clear hb; by_cases h : er = 0
  · subst h
    cases cl with
    | true =>
      go_enter Tryd.func43, Tryd.ntmps43; go_wp2; go_ret; exact ⟨rfl, rfl⟩
    | false =>
      go_enter Tryd.func43, Tryd.ntmps43; go_wp2; go_ret; exact ⟨rfl, rfl⟩
  · have h1 : (er != 0) = true := bne_iff_ne.2 h; have h2 : (er == 0) = false := beq_eq_false_iff_ne.2 h; have HA := Aside0.mk (show ans cl er = er from if_neg h); clear h; rw [HA.out]; go_enter Tryd.func43, Tryd.ntmps43; go_wp2; go_ret; exact ⟨rfl, rfl⟩
end
theorem dec_fine : ∀ (k : Nat) (b : List Int) (p : Int), Bytes b → 0 ≤ p → p + b.length ≤ 4000000000000000 → ∀ y ∈ (dec k b p).1, fine y
  | 0, b, p, _, _, _, y, hy => by simp [dec] at hy
  | k + 1, [], p, _, _, _, y, hy => by simp [dec] at hy
  | k + 1, c :: t, p, hb, h0, h1, y, hy => by
    have hc := hb c (List.mem_cons_self ..); have hw := Ux.one1_width c t; rw [List.length_cons] at h1; simp only [dec] at hy; split at hy
    · simp at hy
    · rcases List.mem_cons.1 hy with rfl | hy
      · exact ⟨Ot.one1_32 c t hc, h0, by show p ≤ _; omega, by show 0 ≤ (one1 c t).2.1; omega, by show (one1 c t).2.1 ≤ _; omega⟩
      · refine dec_fine k _ _ (fun x hx => hb x (List.mem_of_mem_drop hx)) (by omega) ?_ y hy; rw [List.length_drop, List.length_cons]; omega
theorem rest_fine (b : List Int) (p : Int) (h0 : 0 ≤ p) (h1 : p + b.length ≤ 4000000000000000) : ∀ y ∈ rest1 b p, fine y := by
  intro y hy; unfold rest1 at hy; split at hy
  · simp at hy
  · rw [List.mem_singleton.1 hy]; exact ⟨by show -2147483648 ≤ (65533 : Int) ∧ (65533 : Int) ≤ 2147483647; decide, h0, by show p ≤ _; omega, by show (0 : Int) ≤ b.length; omega, by show (b.length : Int) ≤ _; omega⟩
theorem rot3 (a b c x : Th) (M : List Th) : (a :: b :: c :: (M ++ [x])).Perm (a :: b :: x :: c :: M) :=
  .cons a (.cons b ((List.perm_append_comm (l₁ := c :: M) (l₂ := [x]))))
theorem unrot3 (a b c x : Th) (M : List Th) : (a :: b :: x :: c :: M).Perm (a :: b :: c :: (M ++ [x])) := (rot3 a b c x M).symm
def Seg (w0 : World) (g gd : Nat) (lim : Int) (kept : List Int) (dat : Int) (dcl : Bool) (o : List Int) (a e : Int) (cl : Bool) (er : Int) (M : List Th) (w : World) : Prop :=
  ∃ ov, Sep w0 (blkT g (segCells gd lim ov a e cl er) TS :: rowT K3 T3 w0.heap.size ov o :: decT gd w0.heap.size kept dat dcl :: M) w
def WritePost (w0 : World) (g gd : Nat) (lim : Int) (kept : List Int) (dat : Int) (dcl cl : Bool) (M : List Th) (r : List SG × List Int × Int × Int × Bool) (E : Ending) (w' : World) : Prop :=
  ∃ outv, E = .returned (.tuple #[outv, .int .i64 (errOf r.2.2.2.2)]) ∧ Seg w0 g gd lim kept dat dcl r.2.1 r.2.2.1 r.2.2.2.1 cl (errOf r.2.2.2.2) (M ++ [rowT kG TG w0.heap.size outv r.1]) w'
set_option maxRecDepth 100000 in
set_option maxHeartbeats 4000000 in
theorem WriteOk (w0 : World) (hG : G w0) (w : World) (g gd : Nat) (lim : Int) (kept : List Int) (dat : Int) (o : List Int) (a e : Int) (M : List Th) (h : Seg w0 g gd lim kept dat false o a e false 0 M w)
    (A : Option Addr) (n c : Nat) (bs : List Int) (hb : KB.C w A n bs) (hB : Bytes (kept ++ bs)) (hlen : kept.length + n ≤ 100000000) (hat : 0 ≤ dat ∧ dat ≤ 1000000000000) (hlim : lim ≤ 50000000) (ho : (o.length : Int) ≤ lim) (ho32 : ∀ x ∈ o, I32 x)
    (pts : List SP) (kept' : List Int) (dat' : Int) (hp : dc (kept ++ bs) dat = (pts, kept', dat')) :
    Calls Tryd.prog 15 #[.pointer (some ⟨g, 0, none⟩), .slice A n c] w (WritePost w0 g gd lim kept' dat' false false M (tk lim pts o a e)) := by
  obtain ⟨ov, hS⟩ := h; have hbl := (hS.blk 0 rfl).1; have HE := Aside0.mk (EndR hbl); have c0 := blk_cell hbl 0; simp only [segCells] at c0; have hdl := Ux.dc_len (kept ++ bs) dat; have hn := (rdint hb).1
  have hf : ∀ p ∈ pts, fine p := by
    have := dec_fine (kept ++ bs).length (kept ++ bs) dat hB hat.1 (by rw [List.length_append]; omega); rw [show dec (kept ++ bs).length (kept ++ bs) dat = dc (kept ++ bs) dat from rfl, hp] at this; exact this
  have e1 := congrArg (fun q => q.1) hp; have e2 := congrArg (fun q => q.2.1) hp; have e3 := congrArg (fun q => q.2.2) hp; simp only at e1 e2 e3; rw [e1, e2] at hdl; (have hpl : pts.length ≤ 100000000 := by have := hdl.2.1; rw [List.length_append] at this; omega); have HW := Aside0.mk (Dc.WriteS hS 2 rfl A n c bs (rdint hb) hB (by omega) ⟨hat.1, by omega⟩); rw [e1, e2, e3] at HW; have HF := Aside0.mk hf; have HO := Aside0.mk ho32; obtain ⟨R, hR⟩ : ∃ R, R = tk lim pts o a e := ⟨_, rfl⟩; obtain ⟨q, hq⟩ : ∃ q, q = pts.length := ⟨_, rfl⟩; rw [← hq] at HW hpl; rw [← hR]; have HR := Aside0.mk hR; clear hS hbl hb hB hlen hat ho32 hp hdl hn hf e1 e2 e3 hR hq; go_enter Tryd.func15, Tryd.ntmps15; go_wp2_with (first | (go_at_call 43; go_must (refine HE.out.mono ?_; rintro E w1 ⟨rfl, rfl⟩)) | (go_at_call 45; go_must (refine HW.out.mono ?_; rintro E w2 ⟨A2, c2, rfl, p1⟩; have S2 := Aside0.mk (Sep.perm (show Sep w0 (blkT g (segCells gd lim ov a e false 0) TS :: rowT K3 T3 w0.heap.size ov o :: decT gd w0.heap.size kept' dat' false :: (M ++ [rowT kP TP w0.heap.size (.slice A2 q c2) pts])) w2 from p1) (rot3 _ _ _ _ _)); clear p1)) | (go_at_call 44; go_must (refine (TakeS w0 hG w2 g gd lim false A2 q c2 pts (decT gd w0.heap.size kept' dat' false :: M) o a e ov S2.out HF.out hpl hlim ho HO.out).mono ?_; rw [← HR.out]; rintro E w3 ⟨outv, rfl, ov3, p1⟩; have S3 := Aside0.mk (Sep.perm p1 (unrot3 _ _ _ _ _)); clear p1))); go_ret2
  exact ⟨outv, rfl, ov3, by
    have h := S3.out.init_ (blkT g (segCells gd lim ov3 R.2.2.1 R.2.2.2.1 false (errOf R.2.2.2.2)) TS :: rowT K3 T3 w0.heap.size ov3 R.2.1 :: decT gd w0.heap.size kept' dat' false :: (M ++ [rowT kG TG w0.heap.size outv R.1])) _ rfl
    exact h⟩
def fin (r : List SG × List Int × Int × Int × Bool) : List SG := if r.2.2.2.2 = true then r.1 else if r.2.1.isEmpty = true then r.1 else r.1 ++ [⟨txt r.2.1, r.2.2.1, r.2.2.2.1⟩]
def ClosePost (w0 : World) (g gd : Nat) (lim : Int) (dat : Int) (M : List Th) (r : List SG × List Int × Int × Int × Bool) (E : Ending) (w' : World) : Prop :=
  ∃ outv, E = .returned (.tuple #[outv, .int .i64 (errOf r.2.2.2.2)]) ∧ Seg w0 g gd lim [] dat true [] r.2.2.1 r.2.2.2.1 true (errOf r.2.2.2.2) (M ++ [rowT kG TG w0.heap.size outv (fin r)]) w'
theorem tk_open (lim : Int) (hlim : 0 ≤ lim) : ∀ (ps : List SP) (o : List Int) (a e : Int), (o.length : Int) ≤ lim → (∀ x ∈ o, I32 x) → (∀ p ∈ ps, fine p) → ((tk lim ps o a e).2.1.length : Int) ≤ lim ∧ (∀ x ∈ (tk lim ps o a e).2.1, I32 x) ∧ (tk lim ps o a e).1.length ≤ ps.length ∧ ((tk lim ps o a e).2.2.2.2 = true → (tk lim ps o a e).2.1 = [])
  | [], o, a, e, h1, h2, _ => ⟨h1, h2, Nat.le_refl _, fun h => by simp [tk] at h⟩
  | p :: ps, o, a, e, h1, h2, h3 => by
    have hp := h3 p (List.mem_cons_self ..); have hd := Oa.dec_bot p.f0 hp.1; (have ht := fun q hq => h3 q (List.mem_cons_of_mem _ hq)); rw [tk]; split
    · split
      · exact ⟨by simpa using hlim, by simp, by simp, fun _ => rfl⟩
      · have ih := tk_open lim hlim ps (decU p.f0) p.f1 (p.f1 + p.f2) (by omega) (fun x hx => (hd x hx).2) ht; exact ⟨ih.1, ih.2.1, by simp only [List.length_cons]; omega, ih.2.2.2⟩
    · split
      · exact ⟨by simpa using hlim, by simp, by simp, fun _ => rfl⟩
      · have ih := tk_open lim hlim ps (o ++ decU p.f0) a (p.f1 + p.f2) (by omega) (fun x hx => (List.mem_append.1 hx).elim (h2 x) (fun h => (hd x h).2)) ht; exact ⟨ih.1, ih.2.1, by simp only [List.length_cons]; omega, ih.2.2.2⟩
set_option maxRecDepth 100000 in
set_option maxHeartbeats 8000000 in
theorem CloseOk (w0 : World) (hG : G w0) (w : World) (g gd : Nat) (lim : Int) (kept : List Int) (dat : Int) (o : List Int) (a e : Int) (M : List Th) (h : Seg w0 g gd lim kept dat false o a e false 0 M w)
    (hlen : kept.length ≤ 100000000) (hat : 0 ≤ dat ∧ dat ≤ 1000000000000) (hlim0 : 0 ≤ lim) (hlim : lim ≤ 50000000) (ho : (o.length : Int) ≤ lim) (ho32 : ∀ x ∈ o, I32 x) :
    Calls Tryd.prog 20 #[.pointer (some ⟨g, 0, none⟩)] w (ClosePost w0 g gd lim dat M (tk lim (rest1 kept dat) o a e)) := by
  obtain ⟨ov, hS⟩ := h; have hbl := (hS.blk 0 rfl).1; have HE := Aside0.mk (EndR hbl); have c5 := blk_cell hbl 5; have f5 := blk_frozen hbl 5; simp only [segCells] at c5; have hf : ∀ p ∈ rest1 kept dat, fine p := rest_fine kept dat hat.1 (by omega); have hop := tk_open lim hlim0 (rest1 kept dat) o a e ho ho32 hf; (have hrl : (rest1 kept dat).length ≤ 1 := by unfold rest1; split <;> simp); obtain ⟨pts, hpts⟩ : ∃ pts, pts = rest1 kept dat := ⟨_, rfl⟩; rw [← hpts] at hf hop hrl ⊢; obtain ⟨R, hR⟩ : ∃ R, R = tk lim pts o a e := ⟨_, rfl⟩; rw [← hR] at hop ⊢; have S1 := Aside0.mk (show Sep w0 (blkT g (segCells gd lim ov a e true 0) TS :: rowT K3 T3 w0.heap.size ov o :: decT gd w0.heap.size kept dat false :: M) (w.setCell ⟨g, 5, none⟩ (.bool true)) from hS.blk_set 0 rfl 5 (.bool true) rfl); have c0 := blk_cell (S1.out.blk 0 rfl).1 0; simp only [segCells] at c0; have HW := Aside0.mk (Dc.CloseS S1.out 2 rfl); rw [← hpts] at HW; obtain ⟨q, hq⟩ : ∃ q, q = pts.length := ⟨_, rfl⟩; rw [← hq] at HW hrl hop; have HF := Aside0.mk hf; have HO := Aside0.mk ho32; have HR := Aside0.mk hR; have HOP := Aside0.mk hop; (have hq1 : q ≤ 100000000 := by omega); clear hS hbl hlen hat ho32 hf hR hq hpts hop S1; go_enter Tryd.func20, Tryd.ntmps20; go_upto_region 6 with (first | (go_at_call 43; go_must (refine HE.out.mono ?_; rintro E w1 ⟨rfl, rfl⟩)) | (go_at_call 50; go_must (refine HW.out.mono ?_; rintro E w2 ⟨A2, c2, rfl, p1⟩; have S2 := Aside0.mk (Sep.perm (show Sep w0 (blkT g (segCells gd lim ov a e true 0) TS :: rowT K3 T3 w0.heap.size ov o :: decT gd w0.heap.size [] dat true :: (M ++ [rowT kP TP w0.heap.size (.slice A2 q c2) pts])) w2 from p1) (rot3 _ _ _ _ _)); clear p1)) | (go_at_call 44; go_must (refine (TakeS w0 hG w2 g gd lim true A2 q c2 pts (decT gd w0.heap.size [] dat true :: M) o a e ov S2.out HF.out hq1 hlim ho HO.out).mono ?_; rw [← HR.out]; rintro E w3 ⟨outv, rfl, ov3, p1⟩; have S3 := Aside0.mk (Sep.perm p1 (unrot3 _ _ _ _ _)); clear p1))); obtain ⟨out, o', a', e', bad⟩ := R; have S4 := Aside0.mk (show Sep w0 (blkT g (segCells gd lim ov3 a' e' true (errOf bad)) TS :: rowT K3 T3 w0.heap.size ov3 o' :: decT gd w0.heap.size [] dat true :: (M ++ [rowT kG TG w0.heap.size outv out])) w3 from S3.out.init_ (blkT g (segCells gd lim ov3 a' e' true (errOf bad)) TS :: rowT K3 T3 w0.heap.size ov3 o' :: decT gd w0.heap.size [] dat true :: (M ++ [rowT kG TG w0.heap.size outv out])) _ rfl); clear S3 HR HW HE c0 c5 f5
  cases bad with
  | true =>
    have hb : o' = [] := HOP.out.2.2.2 rfl; subst hb; have h6 : errOf true = 6 := rfl; have HP := Aside0.mk (show ∀ E w', E = .returned (.tuple #[outv, .int .i64 6]) → w' = w3 → ClosePost w0 g gd lim dat M (out, [], a', e', true) E w' from fun E w' hE hw => by subst hE hw; exact ⟨outv, rfl, ov3, S4.out⟩); go_wp2; go_ret2; exact HP.out _ _ rfl rfl
  | false =>
    obtain ⟨A3, c3, rfl, hc3, hC3⟩ := S4.out.reads 1 rfl; obtain ⟨m, hm⟩ : ∃ m, m = o'.length := ⟨_, rfl⟩; rw [← hm] at S4 hc3 hC3; have c2' := blk_cell (S4.out.blk 0 rfl).1 2; simp only [segCells] at c2'; have HM := Aside0.mk hm; have HC3 := Aside0.mk hC3; have HP1 := Aside0.mk HOP.out.2.1; (have hml : (m : Int) ≤ lim := by rw [hm]; exact HOP.out.1); have hol : out.length ≤ q := HOP.out.2.2.1; clear hm hC3 HOP; rcases Nat.eq_zero_or_pos m with h0 | h0
    · subst h0; have hb : o' = [] := List.eq_nil_of_length_eq_zero HM.out.symm; subst hb; have hd3 : decide ((0 : Int) > 0) = false := rfl; have HP := Aside0.mk (show ∀ E w', E = .returned (.tuple #[outv, .int .i64 0]) → w' = w3 → ClosePost w0 g gd lim dat M (out, [], a', e', false) E w' from fun E w' hE hw => by subst hE hw; exact ⟨outv, rfl, _, S4.out⟩); go_wp2; go_ret2; exact HP.out _ _ rfl rfl
    · have hd3 : decide (0 < m) = true := decide_eq_true h0
      have hne : o'.isEmpty = false := by
        cases o' with
        | nil => exact absurd HM.out (by simp; omega)
        | cons x t => rfl
      have HNE := Aside0.mk hne; have HWh := Aside0.mk (WholeP w3 (hG.below S4.out.below) g gd lim a' e' 0 true A3 m c3 o' (S4.out.blk 0 rfl).1 HC3.out HM.out hc3 HP1.out (by omega)); clear hne c2'; have c2' := blk_cell (S4.out.blk 0 rfl).1 2; simp only [segCells] at c2'; go_upto_region 8 with (first | (go_at_call 51; go_must (refine HWh.out.mono ?_; rintro E w4 ⟨rfl, p1⟩; have S5 := Aside0.mk (S4.out.later p1); clear p1; obtain ⟨ok1, hR1, hf1, hN1⟩ := Sep.row (d := kG) (e := TG) (base := w0.heap.size) (v := outv) (xs := out) S5.out (M.length + 3) (at3 _ _ _ _ _ _); have HR1 := Aside0.mk hR1; have HF1 := Aside0.mk hf1; have HN1 := Aside0.mk hN1; have HB3 := Aside0.mk S5.out.below; clear hR1 hf1 hN1)) | (at_builtin; go_must (refine Kd.R_append kG (w0 := w0) w0.heap.size rfl (.tmp 35) (.tmp 38) 29 TG (.agg #[.string ⟨#[]⟩, .int .i64 0, .int .i64 0]) 32 rfl Tryd.underlying29 info67 rfl (by decide) (by decide) outv out (⟨txt o', a', e'⟩ : SG) [.string (txt o'), .int .i64 a', .int .i64 e'] ok1 (fun _ => False) rfl rfl ?aP (fun _ hk => hk.elim) ?aF ?aO ?aB ?aS ?aL ?_; (case aP => exact k67_mkM _ _ _ ⟨txt o', a', e'⟩); (case aB => exact HB3.out); (case aF => exact HF1.out); (case aO => exact HR1.out); (case aS => exact HB3.out.size); (case aL => omega); intro v6 w5 ho hb hg hat; have S6 := Aside0.mk (show Sep w0 (blkT g (segCells gd lim (.slice A3 m c3) a' e' true 0) TS :: rowT K3 T3 w0.heap.size (.slice A3 m c3) o' :: decT gd w0.heap.size [] dat true :: (M ++ [rowT kG TG w0.heap.size v6 (out ++ [⟨txt o', a', e'⟩])])) w5 from (by have h := HN1.out v6 w5 _ ho hg; rw [set3] at h; exact h)); clear ho hb hg hat HR1 HF1 HN1 S5))); clear c2' S4; have c2' := blk_cell (S6.out.blk 0 rfl).1 2; have f2' := blk_frozen (S6.out.blk 0 rfl).1 2; simp only [segCells] at c2'; have S7 := Aside0.mk (show Sep w0 (blkT g (segCells gd lim (.slice none 0 0) a' e' true 0) TS :: rowT K3 T3 w0.heap.size (.slice none 0 0) [] :: decT gd w0.heap.size [] dat true :: (M ++ [rowT kG TG w0.heap.size v6 (out ++ [⟨txt o', a', e'⟩])])) (w5.setCell ⟨g, 2, none⟩ (.slice none 0 0)) from (S6.out.blk_set 0 rfl 2 (.slice none 0 0) rfl).let_go K3 T3 w0.heap.size 1 rfl); have HFN := Aside0.mk (show fin (out, o', a', e', false) = out ++ [⟨txt o', a', e'⟩] by unfold fin; simp [HNE.out]); go_wp2; go_ret2; unfold ClosePost; rw [HFN.out]; exact ⟨v6, rfl, _, S7.out⟩
end Go.Proofs.YthffpkdadffinaaDoor.Sgc
namespace Go.Proofs.YthffpkdadffinaaDoor.Sgd
set_option linter.unusedVariables false
set_option linter.unusedSimpArgs false
open Go.Proofs.YthffpkdadffinaaDoor.Vd (decU)
open Go.Proofs.YthffpkdadffinaaDoor.Ve (opn)
open Go.Proofs.YthffpkdadffinaaDoor.Fr (K3 T3)
open Go.Proofs.YthffpkdadffinaaDoor.Ux (Bytes one1 dc rest1 full dec)
open Go.Proofs.YthffpkdadffinaaDoor.Dc (decT)
open Go.RowKit YthffpkdadffinaaDoorW.PrintWords Hp Fm X Va Oa Vp0 Cn Sga Sgb Sgc
theorem tk_app (lim : Int) : ∀ (ps qs : List SP) (o : List Int) (a e : Int), tk lim (ps ++ qs) o a e = if (tk lim ps o a e).2.2.2.2 = true then tk lim ps o a e else catT (tk lim ps o a e).1 (tk lim qs (tk lim ps o a e).2.1 (tk lim ps o a e).2.2.1 (tk lim ps o a e).2.2.2.1)
  | [], qs, o, a, e => by simp [tk, catT]
  | p :: ps, qs, o, a, e => by
    rw [List.cons_append, tk, tk]; split
    · split
      · simp
      · rw [tk_app lim ps qs]; by_cases hb : (tk lim ps (decU p.f0) p.f1 (p.f1 + p.f2)).2.2.2.2 = true
        · rw [if_pos hb, if_pos hb]
        · rw [if_neg hb, if_neg hb]; simp [catT]
    · split
      · simp
      · exact tk_app lim ps qs _ _ _
theorem fin_cat (x : List SG) (r : List SG × List Int × Int × Int × Bool) : fin (catT x r) = x ++ fin r := by
  unfold fin catT; simp only; split
  · rfl
  · split
    · rfl
    · rw [List.append_assoc]
theorem tk_nobad (lim : Int) : ∀ (ps : List SP) (o : List Int) (a e : Int), (∀ p ∈ ps, fine p) → (o.length : Int) + 3 * ps.length ≤ lim → (tk lim ps o a e).2.2.2.2 = false
  | [], o, a, e, _, _ => rfl
  | p :: ps, o, a, e, hf, h => by
    have hd := Oa.dec_len3 p.f0 (hf p (List.mem_cons_self ..)).1; (have ht := fun q hq => hf q (List.mem_cons_of_mem _ hq)); rw [List.length_cons] at h; (have ho : (0 : Int) ≤ o.length := by omega); rw [tk]; split
    · rw [if_neg (by omega)]; exact tk_nobad lim ps _ _ _ ht (by omega)
    · rw [if_neg (by rw [List.length_append]; omega)]; exact tk_nobad lim ps _ _ _ ht (by rw [List.length_append]; omega)
def segs (lim : Int) (b : List Int) : List SG × List Int × Int × Int × Bool := tk lim (full b) [] 0 0
def splitF (lim : Int) (b : List Int) : List SG × Int := if lim < 1 ∨ lim > 64 then ([], 1) else (fin (segs lim b), errOf (segs lim b).2.2.2.2)
section
variable {w0 w : World} {L : List Th}
theorem NewNo (w : World) (lim : Int) (h : lim < 1 ∨ lim > 64) : Calls Tryd.prog 14 #[.int .i64 lim] w fun E w' => E = .returned (.tuple #[.pointer none, .int .i64 1]) ∧ w = w' := by
  by_cases h1 : lim < 1
  · have hd : decide (lim < 1) = true := decide_eq_true h1; go_enter Tryd.func14, Tryd.ntmps14; go_wp2; go_ret2; exact ⟨rfl, rfl⟩
  · have hd : decide (lim < 1) = false := decide_eq_false h1; have hd2 : decide (lim > 64) = true := decide_eq_true (by omega); have hd3 : decide (64 < lim) = true := hd2; go_enter Tryd.func14, Tryd.ntmps14; go_wp2; go_ret2; exact ⟨rfl, rfl⟩
theorem seg3 (d x o : Th) (L : List Th) : ((L ++ [d]) ++ [x] ++ [o]).Perm (x :: o :: d :: L) := by
  have h1 : ((L ++ [d]) ++ [x] ++ [o]).Perm ([x, o] ++ (L ++ [d])) := by
    (have e : (L ++ [d]) ++ [x] ++ [o] = (L ++ [d]) ++ [x, o] := by simp); rw [e]; exact List.perm_append_comm
  refine h1.trans (.cons x (.cons o ?_)); exact List.perm_append_comm (l₁ := L) (l₂ := [d])
theorem NewOk (h : Sep w0 L w) (lim : Int) (h1 : 1 ≤ lim) (h2 : lim ≤ 64) : Calls Tryd.prog 14 #[.int .i64 lim] w fun E w' => ∃ g gd, E = .returned (.tuple #[.pointer (some ⟨g, 0, none⟩), .int .i64 0]) ∧ Seg w0 g gd lim [] 0 false [] 0 0 false 0 L w' := by
  have hd : decide (lim < 1) = false := decide_eq_false (by omega); have hd2 : decide (lim > 64) = false := decide_eq_false (by omega); have hd3 : decide (64 < lim) = false := hd2; have H := Aside0.mk (Dc.NewS h); clear h1 h2; go_enter Tryd.func14, Tryd.ntmps14; go_wp2_with (first | (go_at_call 42; go_must (refine H.out.mono ?_; rintro E w1 ⟨gd, rfl, p1⟩; have S1 := Aside0.mk p1; clear p1))); go_ret2; refine ⟨w1.heap.size, gd, rfl, .slice none 0 0, ?_⟩; have s := ((S1.out.blk_new (segCells gd lim (.slice none 0 0) 0 0 false 0) TS).empty K3 T3 w0.heap.size); exact s.perm (seg3 _ _ _ _)
end
theorem kG_KM {w w' : World} {base : Nat} {ok : Nat → Prop} (x : SG) (cs : List Value) (h : kG.K w x cs) : kG.M w' base ok x cs := by
  obtain rfl := k67_open h; exact k67_mkM _ _ _ _
def SplitPost (w : World) (r : List SG × Int) (E : Ending) (w' : World) : Prop := ∃ v, E = .returned (.tuple #[v, .int .i64 r.2]) ∧ kG.R TG w' w.heap.size (fun _ => True) v r.1 ∧ Below w.heap.size w w'
theorem post_of {w w' : World} {L : List Th} (h : Sep w L w') (i : Nat) {v : Value} {l : List SG} (hi : L[i]? = some (rowT kG TG w.heap.size v l)) : kG.R TG w' w.heap.size (fun _ => True) v l := by
  obtain ⟨ok, h1⟩ := h.one i _ hi; exact Kd.R_mono h1 (fun _ _ => trivial)
set_option maxRecDepth 100000 in
set_option maxHeartbeats 4000000 in
theorem SplitP (w : World) (hG : G w) (A : Option Addr) (n c : Nat) (b : List Int) (hC : KB.C w A n b) (hn : n = b.length) (hB : Bytes b) (hl : n ≤ 10000000) (lim : Int) :
    Calls Tryd.prog 39 #[.slice A n c, .int .i64 lim] w (SplitPost w (splitF lim b)) := by
  by_cases hlm : lim < 1 ∨ lim > 64
  · have HP := Aside0.mk (show ∀ E w', E = .returned (.tuple #[.slice none 0 0, .int .i64 1]) → w' = w → SplitPost w (splitF lim b) E w' from fun E w' h1 h2 => by
      subst h1 h2; unfold splitF; rw [if_pos hlm]
      exact ⟨_, rfl, Kd.R_nil _ _ _ _ _, Below.refl _ _⟩)
    have HN := Aside0.mk (NewNo w lim hlm); clear hlm hC hn hB hl; go_enter Tryd.func39, Tryd.ntmps39; go_wp2_with (first | (go_at_call 14; go_must (refine HN.out.mono ?_; rintro E w1 ⟨rfl, rfl⟩))); go_ret2; exact HP.out _ _ rfl rfl
  · have hsp : splitF lim b = (fin (segs lim b), errOf (segs lim b).2.2.2.2) := if_neg hlm; have hdl := Ux.dc_len b 0; have hdr := Ux.dc_rest b 0; have hff := dec_fine b.length b 0 hB (Int.le_refl _) (by omega); rw [show dec b.length b 0 = dc b 0 from rfl] at hff; obtain ⟨pts, hpts⟩ : ∃ pts, pts = (dc b 0).1 := ⟨_, rfl⟩; obtain ⟨kept, hkept⟩ : ∃ kept, kept = (dc b 0).2.1 := ⟨_, rfl⟩; obtain ⟨dat, hdat⟩ : ∃ dat, dat = (dc b 0).2.2 := ⟨_, rfl⟩; (have hdc : dc ([] ++ b) 0 = (pts, kept, dat) := by rw [List.nil_append, hpts, hkept, hdat]); (have hfull : full b = pts ++ rest1 kept dat := by rw [hpts, hkept, hdat]; rfl); rw [← hpts] at hff; rw [← hpts, ← hkept, ← hdat] at hdl; rw [← hkept] at hdr; obtain ⟨R, hR⟩ : ∃ R, R = tk lim pts [] 0 0 := ⟨_, rfl⟩; have hop := tk_open lim (by omega) pts [] 0 0 (by simp; omega) (by simp) hff
    have hseg : segs lim b = if R.2.2.2.2 = true then R else catT R.1 (tk lim (rest1 kept dat) R.2.1 R.2.2.1 R.2.2.2.1) := by
      unfold segs; rw [hfull, tk_app, ← hR]
    rw [← hR] at hop; have HN := Aside0.mk (NewOk (Sep.nil w) lim (by omega) (by omega)); have HDC := Aside0.mk hdc; have HRR := Aside0.mk hR; have HSP := Aside0.mk hsp; have HSG := Aside0.mk hseg; have HC := Aside0.mk hC; have HB := Aside0.mk hB; have HOP := Aside0.mk hop; (have hlim1 : 0 ≤ lim := by omega); (have hlim2 : lim ≤ 50000000 := by omega); have hkl : kept.length ≤ 3 := hdr.1; (have hda0 : 0 ≤ dat ∧ dat ≤ 1000000000000 := by omega); have HDA := Aside0.mk hda0; (have hpl : pts.length ≤ 10000000 := by omega); clear hlm hC hn hB hsp hdl hdr hff hpts hkept hdat hdc hfull hR hop hseg hda0; go_enter Tryd.func39, Tryd.ntmps39; go_upto_region 5 with (first | (go_at_call 14; go_must (refine HN.out.mono ?_; rintro E w1 ⟨g, gd, rfl, p1⟩; have S1 := Aside0.mk p1; clear p1)) | (go_at_call 15; go_must (refine (WriteOk w hG w1 g gd lim [] 0 [] 0 0 [] S1.out A n c b (by obtain ⟨_, s⟩ := S1.out; exact Kd.C_below HC.out s.below) (by rw [List.nil_append]; exact HB.out) (by simp; omega) (by omega) hlim2 (by simp; omega) (by simp) pts kept dat HDC.out).mono ?_; rw [← HRR.out]; rintro E w2 ⟨outv, rfl, p1⟩; have S2 := Aside0.mk p1; clear p1 S1))); clear HN HRR; obtain ⟨out, o, a, e, bad⟩ := R
    cases bad with
    | true =>
      have h6 : errOf true = 6 := rfl
      have HP := Aside0.mk (show ∀ E w', E = .returned (.tuple #[outv, .int .i64 6]) → w' = w2 → SplitPost w (splitF lim b) E w' from fun E w' h1 h2 => by
        subst h1 h2; rw [HSP.out, HSG.out, if_pos rfl]; obtain ⟨ov, s⟩ := S2.out
        exact ⟨_, rfl, post_of s 3 rfl, s.below⟩)
      go_wp2; go_ret2; exact HP.out _ _ rfl rfl
    | false =>
      have h0 : errOf false = 0 := rfl
      have hs : splitF lim b = (out ++ fin (tk lim (rest1 kept dat) o a e), errOf (tk lim (rest1 kept dat) o a e).2.2.2.2) := by
        rw [HSP.out, HSG.out, if_neg (by simp), fin_cat]; rfl
      have hfl : (fin (tk lim (rest1 kept dat) o a e)).length ≤ 10 := by
        have h := (tk_open lim hlim1 (rest1 kept dat) o a e HOP.out.1 HOP.out.2.1 (rest_fine kept dat HDA.out.1 (by have := HDA.out; omega))).2.2.1; (have hr : (rest1 kept dat).length ≤ 1 := by unfold rest1; split <;> simp); unfold fin; split
        · omega
        · split
          · omega
          · rw [List.length_append, List.length_singleton]; omega
      obtain ⟨R2, hR2⟩ : ∃ R2, R2 = tk lim (rest1 kept dat) o a e := ⟨_, rfl⟩; rw [← hR2] at hs hfl; have HS2 := Aside0.mk hs; have HR2 := Aside0.mk hR2; have hol : out.length ≤ 10000000 := Nat.le_trans HOP.out.2.2.1 hpl; clear hs hR2 HSP HSG; go_upto_region 8 with (first | (go_at_call 20; go_must (refine (CloseOk w hG w2 g gd lim kept dat o a e [rowT kG TG w.heap.size outv out] S2.out (by omega) HDA.out hlim1 hlim2 HOP.out.1 HOP.out.2.1).mono ?_; rw [← HR2.out]; rintro E w3 ⟨outv2, rfl, p1⟩; have S3 := Aside0.mk p1; clear p1))); clear HR2 S2; obtain ⟨ov, hS⟩ := S3.out; obtain ⟨ok1, hR1, hf1, hN1⟩ := Sep.row (d := kG) (e := TG) (base := w.heap.size) (v := outv) (xs := out) hS 3 rfl; obtain ⟨A2, c2, rfl, hc2, hC2⟩ := Sep.reads (d := kG) (e := TG) (base := w.heap.size) (v := outv2) (xs := fin R2) hS 4 rfl; have HB3 := Aside0.mk hS.below; have HR1 := Aside0.mk hR1; have HF1 := Aside0.mk hf1; have HN1 := Aside0.mk hN1; have HC2 := Aside0.mk hC2; clear hS hR1 hf1 hN1 hC2 hc2 S3; go_wp2_with (first | (at_builtin; go_must (refine Kd.R_append_rows kG (Rr := kG.K w3) (w0 := w) w.heap.size rfl (.tmp 33) (.tmp 34) 29 TG (.agg #[.string ⟨#[]⟩, .int .i64 0, .int .i64 0]) 32 rfl Tryd.underlying29 info67 rfl (by decide) (by decide) outv out (fin R2) A2 (fin R2).length c2 ok1 (fun _ => False) rfl rfl HR1.out HC2.out (fun x cs h => kG_KM x cs h) (fun _ h => h.elim) HF1.out HB3.out HB3.out.size (by omega) ?hh)))
      case hh =>
        intro v1 w4 ho hb hg hat; have hs := HN1.out v1 w4 _ ho hg
        have HP := Aside0.mk (show ∀ E w', E = .returned (.tuple #[v1, .int .i64 (errOf R2.2.2.2.2)]) → w' = w4 → SplitPost w (splitF lim b) E w' from fun E w' h1 h2 => by
          subst h1 h2; rw [HS2.out]
          exact ⟨_, rfl, post_of hs 3 rfl, hs.below⟩)
        clear ho hb hg hat hs HN1 HR1 HF1 HC2; go_wp2; go_ret2; exact HP.out _ _ rfl rfl
def textsF (b : List Int) : List ByteArray := (fin (segs (3 * (b.length : Int) + 3) b)).map (·.f0)
theorem sg_at {w : World} {A : Option Addr} {n : Nat} {l : List SG} (h : Kd.C kG w A n l) (j : Nat) (hj : j < n) (hjl : j < l.length) :
    ∃ ad, A = some ad ∧ w.cell? (ad.add (j * 3)) = some (.string l[j].f0) ∧ w.cell? ⟨(ad.add (j * 3)).block, (ad.add (j * 3)).off + 1, none⟩ = some (.int .i64 l[j].f1) ∧ w.cell? ⟨(ad.add (j * 3)).block, (ad.add (j * 3)).off + 2, none⟩ = some (.int .i64 l[j].f2) := by
  have := at_T67 h (j : Int) (by omega) (by omega); (have e : rd_T67 l (j : Int) = l[j] := by unfold rd_T67; simp [List.getD_eq_getElem?_getD, List.getElem?_eq_getElem hjl]); rw [Int.toNat_natCast, e] at this; exact this
def TextsPost (w : World) (r : List ByteArray) (E : Ending) (w' : World) : Prop := ∃ v, E = .returned v ∧ Kd.string.R 9 w' w.heap.size (fun _ => True) v r ∧ Below w.heap.size w w'
set_option maxRecDepth 100000 in
set_option maxHeartbeats 8000000 in
theorem TextsP (w : World) (hG : G w) (A : Option Addr) (n c : Nat) (b : List Int) (hC : KB.C w A n b) (hn : n = b.length) (hB : Bytes b) (hl : n ≤ 13000000) :
    Calls Tryd.prog 41 #[.slice A n c] w (TextsPost w (textsF b)) := by
  obtain ⟨lim, hlim⟩ : ∃ lim : Int, lim = 3 * (n : Int) + 3 := ⟨_, rfl⟩; have hdl := Ux.dc_len b 0; have hdr := Ux.dc_rest b 0; have hff := dec_fine b.length b 0 hB (Int.le_refl _) (by omega); rw [show dec b.length b 0 = dc b 0 from rfl] at hff; obtain ⟨pts, hpts⟩ : ∃ pts, pts = (dc b 0).1 := ⟨_, rfl⟩; obtain ⟨kept, hkept⟩ : ∃ kept, kept = (dc b 0).2.1 := ⟨_, rfl⟩; obtain ⟨dat, hdat⟩ : ∃ dat, dat = (dc b 0).2.2 := ⟨_, rfl⟩; (have hdc : dc ([] ++ b) 0 = (pts, kept, dat) := by rw [List.nil_append, hpts, hkept, hdat]); (have hfull : full b = pts ++ rest1 kept dat := by rw [hpts, hkept, hdat]; rfl); rw [← hpts] at hff; rw [← hpts, ← hkept, ← hdat] at hdl; rw [← hkept] at hdr; obtain ⟨R, hR⟩ : ∃ R, R = tk lim pts [] 0 0 := ⟨_, rfl⟩; have hop := tk_open lim (by omega) pts [] 0 0 (by simp; omega) (by simp) hff; have hnb := tk_nobad lim pts [] 0 0 hff (by simp; omega); rw [← hR] at hop hnb; have hrf := rest_fine kept dat (show 0 ≤ dat by omega) (by omega); have hrl : (rest1 kept dat).length ≤ 1 := by unfold rest1; split <;> simp
  have hnb2 : (segs lim b).2.2.2.2 = false := by
    unfold segs
    have hr0 : (rest1 kept dat).length = 0 ∨ kept ≠ [] := by
      unfold rest1; split
      · exact .inl rfl
      · rename_i h; exact .inr h
    refine tk_nobad lim (full b) [] 0 0 ?_ ?_
    · intro x hx; rw [hfull] at hx; exact (List.mem_append.1 hx).elim (hff x) (hrf x)
    · rw [hfull, List.length_append]; simp only [List.length_nil]; rcases hr0 with h | h
      · omega
      · have := List.length_pos_iff.2 h; omega
  have hseg : segs lim b = catT R.1 (tk lim (rest1 kept dat) R.2.1 R.2.2.1 R.2.2.2.1) := by
    unfold segs; rw [hfull, tk_app, ← hR, if_neg (by rw [hnb]; decide)]
  obtain ⟨out, o, a, e, bad⟩ := R; obtain rfl : bad = false := hnb; obtain ⟨R2, hR2⟩ : ∃ R2, R2 = tk lim (rest1 kept dat) o a e := ⟨_, rfl⟩; simp only at hseg hop; rw [← hR2] at hseg; (have hb2 : R2.2.2.2.2 = false := by rw [hseg] at hnb2; exact hnb2); obtain ⟨out2, o2, a2, e2, bad2⟩ := R2; obtain rfl : bad2 = false := hb2; (have hfin : fin (segs lim b) = out ++ fin (out2, o2, a2, e2, false) := by rw [hseg, fin_cat]); have hop2 := tk_open lim (by omega) (rest1 kept dat) o a e hop.1 hop.2.1 hrf; rw [← hR2] at hop2; obtain ⟨f2, hf2⟩ : ∃ f2, f2 = fin (out2, o2, a2, e2, false) := ⟨_, rfl⟩; rw [← hf2] at hfin
  have hfl : f2.length ≤ 10 := by
    rw [hf2]; have h := hop2.2.2.1; simp only at h; unfold fin; simp only [Bool.false_eq_true, if_false]; split
    · omega
    · rw [List.length_append, List.length_singleton]; omega
  (have htx : textsF b = (out ++ f2).map (·.f0) := by unfold textsF; rw [← hn, ← hlim, hfin]); have HTX := Aside0.mk htx; have HDC := Aside0.mk hdc; have HRR := Aside0.mk hR; have HR2 := Aside0.mk hR2; have HF2 := Aside0.mk hf2; have HC := Aside0.mk hC; have HB := Aside0.mk hB; have HOP := Aside0.mk hop; have HLIM := Aside0.mk hlim; (have hlim1 : 0 ≤ lim := by omega); (have hlim2 : lim ≤ 50000000 := by omega); have hkl : kept.length ≤ 3 := hdr.1; have HDA := Aside0.mk (show 0 ≤ dat ∧ dat ≤ 1000000000000 by omega); have hol : out.length ≤ 13000000 := Nat.le_trans hop.2.2.1 (by omega); have HS0 := Aside0.mk (Dc.NewS (Sep.nil w)); clear hC hn hB hdl hdr hff hpts hkept hdat hdc hfull hR hop hseg hrf hrl hnb2 hR2 hfin hop2 htx hlim hf2; go_enter Tryd.func41, Tryd.ntmps41; go_upto_region 2 with (first | (go_at_call 42; go_must (refine HS0.out.mono ?_; rintro E w1 ⟨gd, rfl, p1⟩; have S1 := Aside0.mk p1; clear p1))); rw [← HLIM.out]
  have S2 := Aside0.mk (show Seg w w1.heap.size gd lim [] 0 false [] 0 0 false 0 [] (w1.alloc (.cells (segCells gd lim (.slice none 0 0) 0 0 false 0) TS)) from
    ⟨.slice none 0 0, ((S1.out.blk_new (segCells gd lim (.slice none 0 0) 0 0 false 0) TS).empty K3 T3 w.heap.size).perm (seg3 _ _ _ _)⟩)
  obtain ⟨g, hg⟩ : ∃ g, g = w1.heap.size := ⟨_, rfl⟩; rw [← hg] at S2 ⊢; unfold segCells at S2; generalize (w1.alloc (.cells #[.pointer (some ⟨gd, 0, none⟩), .int .i64 lim, .slice none 0 0, .int .i64 0, .int .i64 0, .bool false, .int .i64 0] TS)) = w2 at S2 ⊢; clear S1 hg HS0 HLIM; have h0 : errOf false = 0 := rfl; (have hob : ((0 : Nat) : Int) ≤ lim := by omega); go_upto_region 5 with (first | (go_at_call 15; go_must (refine (WriteOk w hG w2 g gd lim [] 0 [] 0 0 [] S2.out A n c b (by obtain ⟨_, s⟩ := S2.out; exact Kd.C_below HC.out s.below) (by rw [List.nil_append]; exact HB.out) (by simp; omega) (by omega) hlim2 hob (by simp) pts kept dat HDC.out).mono ?_; rw [← HRR.out]; rintro E w3 ⟨outv, rfl, p1⟩; have S3 := Aside0.mk p1; clear p1 S2)) | (go_at_call 20; go_must (refine (CloseOk w hG w3 g gd lim kept dat o a e [rowT kG TG w.heap.size outv out] S3.out (by omega) HDA.out hlim1 hlim2 HOP.out.1 HOP.out.2.1).mono ?_; rw [← HR2.out]; rintro E w4 ⟨outv2, rfl, p1⟩; rw [← HF2.out] at p1; have S4 := Aside0.mk p1; clear p1 S3))); obtain ⟨ov, hS⟩ := S4.out; obtain ⟨ok1, hR1, hf1, hN1⟩ := Sep.row (d := kG) (e := TG) (base := w.heap.size) (v := outv) (xs := out) hS 3 rfl; obtain ⟨A2, c2, rfl, hc2, hC2⟩ := Sep.reads (d := kG) (e := TG) (base := w.heap.size) (v := outv2) (xs := f2) hS 4 rfl; have HB3 := Aside0.mk hS.below; have HR1 := Aside0.mk hR1; have HF1 := Aside0.mk hf1; have HN1 := Aside0.mk hN1; have HC2 := Aside0.mk hC2; clear hS hR1 hf1 hN1 hC2 hc2 S4 HRR HR2 HF2 HDC HOP HDA h0 hob; go_wp2_with (first | (at_builtin; go_must (refine Kd.R_append_rows kG (Rr := kG.K w4) (w0 := w) w.heap.size rfl (.tmp 29) (.tmp 30) 29 TG (.agg #[.string ⟨#[]⟩, .int .i64 0, .int .i64 0]) 32 rfl Tryd.underlying29 info67 rfl (by decide) (by decide) outv out f2 A2 f2.length c2 ok1 (fun _ => False) rfl rfl HR1.out HC2.out (fun x cs h => kG_KM x cs h) (fun _ h => h.elim) HF1.out HB3.out HB3.out.size (by omega) ?hh)))
  case hh =>
    intro v5 w5 ho hb hg hat; obtain ⟨all, hall⟩ : ∃ all, all = out ++ f2 := ⟨_, rfl⟩; have hs := HN1.out v5 w5 _ ho hg; rw [← hall] at hs; obtain ⟨A5, c5, rfl, hc5, -⟩ := Sep.reads (d := kG) (e := TG) (base := w.heap.size) (v := v5) (xs := all) hs 3 rfl; obtain ⟨m, hm⟩ : ∃ m, m = all.length := ⟨_, rfl⟩; rw [← hm] at hs ⊢; have S5 := Aside0.mk ((Sep.pickL (L' := [rowT kG TG w.heap.size (.slice A5 m c5) all]) hs [3] (by decide) rfl).empty Kd.string 9 w.heap.size); have HM := Aside0.mk hm; (have hml : m ≤ 20000000 := by rw [hm, hall, List.length_append]; omega); rw [← hall] at HTX; clear ho hb hg hat hs hc5 hm hall HN1 HR1 HF1 HC2 HB3; go_wp2; go_loopw [8, 33] (fun v8 v33 wr => ∃ i : Nat, v33 = .int .i64 i ∧ i ≤ m ∧ Aside0 (Sep w [rowT kG TG w.heap.size (.slice A5 m c5) all, rowT Kd.string 9 w.heap.size v8 ((all.take i).map (·.f0))] wr)) (fun _ v33 _ => m - (intOf v33).toNat)
    case atStart => exact ⟨0, rfl, Nat.zero_le _, S5⟩
    case round =>
      clear S5; obtain ⟨i, rfl, hi, HS⟩ := hrel; by_cases hlt : i < m
      · have hd : decide ((i : Int) < (m : Int)) = true := decide_eq_true (by omega); have hd2 : decide (i < m) = true := decide_eq_true hlt; (have hil : i < all.length := by have := HM.out; omega); obtain ⟨ad, rfl, z0, z1, z2⟩ := sg_at (HS.out.rows 0 rfl).2.2 i hlt hil; (have hn0 : (0 : Int) ≤ (i : Int) := by omega); (have hn1 : (i : Int) < (m : Int) := by omega); obtain ⟨x, hx⟩ : ∃ x, x = all[i] := ⟨_, rfl⟩; rw [← hx] at z0 z1 z2; (have hts : (all.take (i + 1)).map (·.f0) = (all.take i).map (·.f0) ++ [x.f0] := by rw [List.take_succ_eq_append_getElem hil, ← hx, List.map_append]; rfl); obtain ⟨ts, hts2⟩ : ∃ ts, ts = (all.take i).map (·.f0) := ⟨_, rfl⟩; rw [← hts2] at HS hts; (have htl : ts.length ≤ m := by rw [hts2, List.length_map, List.length_take]; omega); have HTS := Aside0.mk hts; clear hx hts hts2; go_upto_region 8 with (fail); have S6 := Aside0.mk (HS.out.blk_new #[.string x.f0, .int .i64 x.f1, .int .i64 x.f2] TG); obtain ⟨pb, hpb⟩ : ∃ pb, pb = wr.heap.size := ⟨_, rfl⟩; rw [← hpb] at S6 ⊢; generalize (wr.alloc (.cells #[.string x.f0, .int .i64 x.f1, .int .i64 x.f2] TG)) = w6 at S6 ⊢; clear z0 z1 z2 hpb HS; have z0 := blk_cell (S6.out.blk 2 rfl).1 0; obtain ⟨ok1, hR1, hf1, hN1⟩ := Sep.row (d := Kd.string) (e := 9) (base := w.heap.size) (v := u8) (xs := ts) S6.out 1 rfl; have HR1 := Aside0.mk hR1; have HF1 := Aside0.mk hf1; have HN1 := Aside0.mk hN1; have HB3 := Aside0.mk S6.out.below; clear hR1 hf1 hN1 S6; go_wp2_with (first | (at_builtin; go_must (refine Kd.R_append Kd.string (w0 := w) w.heap.size rfl (.tmp 37) (.tmp 40) 64 9 (.string ⟨#[]⟩) 16 rfl Tryd.underlying64 info9 rfl (by decide) (by decide) u8 ts x.f0 [.string x.f0] ok1 (fun _ => False) rfl rfl ?aP (fun _ hk => hk.elim) ?aF ?aO ?aB ?aS ?aL ?aK; (case aP => exact rfl); (case aB => exact HB3.out); (case aF => exact HF1.out); (case aO => exact HR1.out); (case aS => exact HB3.out.size); (case aL => omega))))
        case aK =>
          intro v1 w7 ho hb hg hat; have hs := HN1.out v1 w7 _ ho hg; have S7 := Aside0.mk (show Sep w [rowT kG TG w.heap.size (.slice (some ad) m c5) all, rowT Kd.string 9 w.heap.size v1 ((all.take (i + 1)).map (·.f0))] w7 from by rw [HTS.out]; exact Sep.pickL hs [0, 1] (by decide) rfl); clear ho hb hg hat hs HR1 HF1 HN1 HB3; go_wp2; go_roundw
          case rel => exact ⟨i + 1, by go_num, by omega, S7⟩
          case measure => simp [intOf]; omega
      · have hd : decide ((i : Int) < (m : Int)) = false := decide_eq_false (by omega); have hd2 : decide (i < m) = false := decide_eq_false hlt; go_wp2; go_ret; obtain ⟨ok, h1⟩ := HS.out.one 1 _ rfl; rw [HTX.out]; rw [List.take_of_length_le (by have := HM.out; omega)] at h1; exact ⟨_, rfl, Kd.R_mono h1 (fun _ _ => trivial), HS.out.below⟩
end Go.Proofs.YthffpkdadffinaaDoor.Sgd
namespace Go.Proofs.YthffpkdadffinaaDoor.X
set_option linter.unusedVariables false
set_option linter.unusedSimpArgs false
open Go.RowKit YthffpkdadffinaaDoorW.PrintWords YthffpkdadffinaaDoorW.PrintLast YthffpkdadffinaaDoorW.PrintMore Ux
def bytesB (l : List Int) : Bool := l.all fun x => decide (0 ≤ x) && decide (x ≤ 255)
theorem bytesB_of {l : List Int} (h : bytesB l = true) : Bytes l := fun x hx => by
  have := List.all_eq_true.1 h x hx; simp only [Bool.and_eq_true, decide_eq_true_eq] at this; exact this
theorem bytesB_mk {l : List Int} (h : Bytes l) : bytesB l = true := List.all_eq_true.2 fun x hx => by
  have := h x hx; simp only [Bool.and_eq_true, decide_eq_true_eq]; exact this
def seg_Split.f (l : List Int) (lim : Int) : Option (List S67 × Int) := if bytesB l = true ∧ l.length ≤ 10000000 then some (Sgd.splitF lim l) else none
theorem seg_Split.calls (A0 : Option Addr) (c0 : Nat) (l0 : List Int) (a1 : Int) (r1 : List S67) (r2 : Int) (w : World) (hr0 : Kd.C (Kd.int .u8) w A0 l0.length l0) (hc0 : l0.length ≤ c0) (h : seg_Split.f l0 a1 = some (r1, r2)) (hG0 : Va.G w) :
    Calls Tryd.prog 39 #[.slice A0 l0.length c0, .int .i64 a1] w fun e w' => ∃ v0_ : Value, e = .returned (.tuple #[v0_, .int .i64 r2]) ∧ Kd.R k67 67 w' w.heap.size (fun _ => True) v0_ r1 ∧ Below w.heap.size w w' := by
  unfold seg_Split.f at h; split at h
  · rename_i hh; have h := Option.some.inj h; refine (Sgd.SplitP w hG0 A0 l0.length c0 l0 hr0 rfl (bytesB_of hh.1) (by omega) a1).mono ?_; rintro e w' ⟨v, rfl, p1, p2⟩; rw [h] at p1 ⊢; exact ⟨v, rfl, p1, p2⟩
  · cases h
def seg_Texts.f (l : List Int) : Option (List ByteArray) := if bytesB l = true ∧ l.length ≤ 13000000 then some (Sgd.textsF l) else none
theorem seg_Texts.calls (A0 : Option Addr) (c0 : Nat) (l0 : List Int) (r : List ByteArray) (w : World) (hr0 : Kd.C (Kd.int .u8) w A0 l0.length l0) (hc0 : l0.length ≤ c0) (h : seg_Texts.f l0 = some r) (hG0 : Va.G w) :
    Calls Tryd.prog 41 #[.slice A0 l0.length c0] w fun e w' => ∃ v0_ : Value, e = .returned v0_ ∧ Kd.R Kd.string 9 w' w.heap.size (fun _ => True) v0_ r ∧ Below w.heap.size w w' := by
  unfold seg_Texts.f at h; split at h
  · rename_i hh; cases Option.some.inj h; exact Sgd.TextsP w hG0 A0 l0.length c0 l0 hr0 rfl (bytesB_of hh.1) hh.2
  · cases h
def lenF (s : ByteArray) : Nat := (Ot.rns (bytesOf s)).length
theorem RunesR (w : World) (A : Option Addr) (n c : Nat) (l : List Int) (k : Nat) {r : List Int} (hC : Kd.C (Kd.int .u8) w A n l) (hn : n = l.length) (hc : n ≤ c) (h : tremaref01_Runes.f k l = some r) :
    Calls Tryd.prog 36 #[.slice A n c] w fun e w' => ∃ v0_ : Value, e = .returned v0_ ∧ Kd.R (Kd.int .i32) 21 w' w.heap.size (fun _ => True) v0_ r ∧ Below w.heap.size w w' := by
  subst hn; exact tremaref01_Runes.calls k A c l r w hC hc h
end Go.Proofs.YthffpkdadffinaaDoor.X
namespace Go.Proofs.YthffpkdadffinaaDoor.Rt
set_option linter.unusedVariables false
set_option linter.unusedSimpArgs false
open Go.RowKit YthffpkdadffinaaDoorW.PrintWords Hp Ux En X
theorem one1_enc (f : Int) (hv : vld f = true) (s : List Int) : ∃ c t, encv f = c :: t ∧ one1 c (t ++ s) = (f, (((encv f).length : Nat) : Int), false) := by
  simp only [vld, decide_eq_true_eq] at hv; unfold encv; split
  · rename_i h1; exact ⟨f, [], rfl, by simp [one1, bnd, st, h1, cont]⟩
  · split
    · rename_i h1 h2; refine ⟨_, _, rfl, ?_⟩; unfold one1 bnd st; rw [if_neg (by omega), if_neg (by omega), if_pos (by omega), if_neg (by omega), if_pos (by omega)]; simp only [List.cons_append, List.nil_append, cont]; rw [if_neg (by omega)]; simp only [List.length_cons, List.length_nil, Prod.mk.injEq]; exact ⟨by omega, by omega, trivial⟩
    · split
      · rename_i h1 h2 h3; refine ⟨_, _, rfl, ?_⟩; unfold one1 bnd st; rw [if_neg (show ¬ (224 + f / 4096 < 128) by omega), if_neg (show ¬ (224 + f / 4096 < 194 ∨ 244 < 224 + f / 4096) by omega), if_neg (show ¬ (224 + f / 4096 < 224) by omega), if_pos (show 224 + f / 4096 < 240 by omega), if_neg (show ¬ (224 + f / 4096 < 128) by omega), if_neg (show ¬ (224 + f / 4096 < 224) by omega), if_pos (show 224 + f / 4096 < 240 by omega)]; simp only [List.cons_append, List.nil_append, cont]; rw [if_neg (by split <;> split <;> omega), if_neg (by omega)]; simp only [List.length_cons, List.length_nil, Prod.mk.injEq]; exact ⟨by omega, by omega, trivial⟩
      · rename_i h1 h2 h3; refine ⟨_, _, rfl, ?_⟩; unfold one1 bnd st; rw [if_neg (show ¬ (240 + f / 262144 < 128) by omega), if_neg (show ¬ (240 + f / 262144 < 194 ∨ 244 < 240 + f / 262144) by omega), if_neg (show ¬ (240 + f / 262144 < 224) by omega), if_neg (show ¬ 240 + f / 262144 < 240 by omega), if_neg (show ¬ (240 + f / 262144 < 128) by omega), if_neg (show ¬ (240 + f / 262144 < 224) by omega), if_neg (show ¬ 240 + f / 262144 < 240 by omega)]; simp only [List.cons_append, List.nil_append, cont]; rw [if_neg (by split <;> split <;> omega), if_neg (by omega), if_neg (by omega)]; simp only [List.length_cons, List.length_nil, Prod.mk.injEq]; exact ⟨by omega, by omega, trivial⟩
theorem dc_encv (f : Int) (hv : vld f = true) (s : List Int) (p : Int) : dc (encv f ++ s) p = ((⟨f, p, (encv f).length⟩ : S103) :: (dc s (p + (encv f).length)).1, (dc s (p + (encv f).length)).2) := by
  obtain ⟨c, t, h1, h2⟩ := one1_enc f hv s; (have hl : (encv f).length = t.length + 1 := by rw [h1]; rfl); rw [h1, List.cons_append, dc_cons, h2]; simp only [Bool.false_eq_true, if_false]; (have e : (c :: (t ++ s)).drop (((encv f).length : Nat) : Int).toNat = s := by rw [Int.toNat_natCast, hl]; simp); rw [e, hl]; simp
end Go.Proofs.YthffpkdadffinaaDoor.Rt
namespace Go.Proofs.YthffpkdadffinaaDoor.Bk
set_option linter.unusedVariables false
set_option linter.unusedSimpArgs false
open Go.RowKit YthffpkdadffinaaDoorW.PrintWords Hp Ux En Rt X
def ful (b : List Int) (p : Int) : List S103 := (dc b p).1 ++ rest1 (dc b p).2.1 (dc b p).2.2
theorem full_ful (b : List Int) : full b = ful b 0 := rfl
theorem ful_nil (p : Int) : ful [] p = [] := by simp [ful, dc_nil, rest1]
theorem ful_cons (c : Int) (t : List Int) (p : Int) : ful (c :: t) p = (⟨(one1 c t).1, p, (one1 c t).2.1⟩ : S103) :: ful ((c :: t).drop (one1 c t).2.1.toNat) (p + (one1 c t).2.1) := by
  cases h : (one1 c t).2.2 with
  | true =>
    have h3 := one1_more c t h; (have e : (c :: t).drop (one1 c t).2.1.toNat = [] := by rw [h3.2.1]; exact List.drop_eq_nil_of_le (by simp; omega)); rw [e, ful_nil]; unfold ful; rw [dc_cons, if_pos h]; simp [rest1, h3.1, h3.2.1]; omega
  | false =>
    unfold ful; rw [dc_cons, if_neg (by simp [h])]; simp
theorem ful_enc1 (r : Int) (s : List Int) (p : Int) : ful (enc1 r ++ s) p = (⟨fixr r, p, (enc1 r).length⟩ : S103) :: ful s (p + (enc1 r).length) := by
  unfold ful enc1; rw [dc_encv (fixr r) (fixr_ok r).2.2 s p]; simp
theorem ful_enc : ∀ (l : List Int) (p : Int), (ful (enc l) p).map (·.f0) = l.map fixr
  | [], p => by simp [enc, ful_nil]
  | r :: l, p => by
    simp only [enc]; rw [ful_enc1]; simp [ful_enc l]
theorem str_inj {a b : List Int} (ha : Bytes a) (hb : Bytes b) (h : strOfNums a = strOfNums b) : a = b := by
  (have h1 : a.map (fun n => UInt8.ofNat n.toNat) = b.map (fun n => UInt8.ofNat n.toNat) := by rw [← strOfNums_data, ← strOfNums_data, h]); clear h
  induction a generalizing b with
  | nil => cases b with
    | nil => rfl
    | cons y b => simp at h1
  | cons x a ih =>
    cases b with
    | nil => simp at h1
    | cons y b =>
      simp only [List.map_cons] at h1; injection h1 with h2 h3; have hx := ha x List.mem_cons_self; have hy := hb y List.mem_cons_self; have h4 := congrArg UInt8.toNat h2; simp only [UInt8.toNat_ofNat'] at h4; (have : x = y := by omega); rw [this, ih (fun z hz => ha z (List.mem_cons_of_mem _ hz)) (fun z hz => hb z (List.mem_cons_of_mem _ hz)) h3]
end Go.Proofs.YthffpkdadffinaaDoor.Bk
namespace Go.Proofs.YthffpkdadffinaaDoor.Sgp
set_option linter.unusedVariables false
set_option linter.unusedSimpArgs false
open Go.Proofs.YthffpkdadffinaaDoor.Vd (decU)
open Go.Proofs.YthffpkdadffinaaDoor.Ve (opn)
open Go.Proofs.YthffpkdadffinaaDoor.Ux (Bytes one1 dc rest1 full dec)
open Go.Proofs.YthffpkdadffinaaDoor.En (enc fixr enc_byte enc_len)
open Go.RowKit YthffpkdadffinaaDoorW.PrintWords Ev0 X Oa Ob Vp0 Sga Sgb Sgc Sgd
theorem lenF_txt (l : List Int) : lenF (txt l) = (nrm l).length := by
  unfold lenF txt Ot.rns; rw [Ot.bytes_str _ (enc_byte _), Bk.full_ful]; rw [Bk.ful_enc, List.length_map]
theorem flat_flat (l : List Int) (hl : ∀ x ∈ l, I32 x) : flat (flat l) = flat l := flat_id _ (fun y hy => (flat_bot l hl y hy).1)
theorem txt_flat (l : List Int) (hl : ∀ x ∈ l, I32 x) : txt (flat l) = txt l := by
  unfold txt nrm; rw [flat_flat l hl]
theorem flat_ne (l : List Int) (h : l ≠ []) : flat l ≠ [] := by
  cases l with
  | nil => exact absurd rfl h
  | cons x t =>
    rw [flat_cons]; intro e; exact Ve.decF_ne 4 x (List.append_eq_nil_iff.1 e).1
def cutR : List SP → List Int → Int → Int → List SG
  | [], rs, a, e => [⟨txt rs, a, e⟩]
  | p :: t, rs, a, e => if opn p.f0 = true then ⟨txt rs, a, e⟩ :: cutR t [p.f0] p.f1 (p.f1 + p.f2) else cutR t (rs ++ [p.f0]) a (p.f1 + p.f2)
def cutS : List SP → List SG
  | [] => []
  | p :: t => cutR t [p.f0] p.f1 (p.f1 + p.f2)
def goodS (lim : Int) : List SG → List SG × Bool
  | [] => ([], false)
  | s :: l => if lim < (lenF s.f0 : Int) then ([], true) else (s :: (goodS lim l).1, (goodS lim l).2)
theorem long_first (lim : Int) : ∀ (t : List SP) (rs : List Int) (a e : Int), lim < ((flat rs).length : Int) → goodS lim (cutR t rs a e) = ([], true)
  | [], rs, a, e, h => by
    rw [cutR, goodS, if_pos (by rw [lenF_txt, nrm_len]; exact h)]
  | p :: t, rs, a, e, h => by
    rw [cutR]; split
    · rw [goodS, if_pos (by rw [lenF_txt, nrm_len]; exact h)]
    · refine long_first lim t _ _ _ ?_; rw [flat_app, List.length_append]; omega
theorem tk_cut (lim : Int) : ∀ (t : List SP) (rs : List Int) (a e : Int), rs ≠ [] → (∀ x ∈ rs, I32 x) → (∀ p ∈ t, fine p) → ((flat rs).length : Int) ≤ lim →
    goodS lim (cutR t rs a e) = (fin (tk lim t (flat rs) a e), (tk lim t (flat rs) a e).2.2.2.2)
  | [], rs, a, e, hne, hrs, _, hl => by
    have h1 : (flat rs).isEmpty = false := by
      cases h : flat rs with
      | nil => exact absurd h (flat_ne rs hne)
      | cons x t => rfl
    rw [cutR, goodS, if_neg (by rw [lenF_txt, nrm_len]; omega), goodS]; simp [tk, fin, h1, txt_flat rs hrs]
  | p :: t, rs, a, e, hne, hrs, hf, hl => by
    have h1 : (flat rs).isEmpty = false := by
      cases h : flat rs with
      | nil => exact absurd h (flat_ne rs hne)
      | cons x t => rfl
    have hp := hf p (List.mem_cons_self ..); (have ht := fun q hq => hf q (List.mem_cons_of_mem _ hq)); (have hfl : flushB (flat rs) p.f0 = opn p.f0 := by unfold flushB; rw [h1]; rfl); (have e1 : flat [p.f0] = decU p.f0 := by simp [flat]); rw [cutR, tk, hfl, txt_flat rs hrs]; by_cases ho : opn p.f0 = true
    · rw [if_pos ho, if_pos ho, goodS, if_neg (by rw [lenF_txt, nrm_len]; omega)]; by_cases hlm : lim < ((decU p.f0).length : Int)
      · rw [if_pos hlm, long_first lim t [p.f0] _ _ (by rw [e1]; exact hlm)]
        rfl
      · rw [if_neg hlm]; have ih := tk_cut lim t [p.f0] p.f1 (p.f1 + p.f2) (by simp) (by intro x hx; rw [List.mem_singleton.1 hx]; exact hp.1) ht (by rw [e1]; omega); rw [e1] at ih; rw [ih]; have := fin_cat [⟨txt rs, a, e⟩] (tk lim t (decU p.f0) p.f1 (p.f1 + p.f2)); unfold catT at this; simp only [List.singleton_append] at this; rw [this]
    · rw [if_neg ho, if_neg ho]; (have e2 : flat (rs ++ [p.f0]) = flat rs ++ decU p.f0 := by rw [flat_app, e1]); by_cases hlm : lim < ((flat rs ++ decU p.f0).length : Int)
      · rw [if_pos hlm, long_first lim t _ _ _ (by rw [e2]; exact hlm)]
        rfl
      · rw [if_neg hlm]; have ih := tk_cut lim t (rs ++ [p.f0]) a (p.f1 + p.f2) (by simp) (by intro x hx; rcases List.mem_append.1 hx with h | h; (· exact hrs x h); (· rw [List.mem_singleton.1 h]; exact hp.1)) ht (by rw [e2]; omega); rw [e2] at ih; exact ih
theorem tk_cutS (lim : Int) (ps : List SP) (hf : ∀ p ∈ ps, fine p) (h0 : ∀ p t, ps = p :: t → p.f1 = 0) :
    goodS lim (cutS ps) = (fin (tk lim ps [] 0 0), (tk lim ps [] 0 0).2.2.2.2) := by
  cases ps with
  | nil => rfl
  | cons p t =>
    have hp := hf p (List.mem_cons_self ..); (have ht := fun q hq => hf q (List.mem_cons_of_mem _ hq)); have hz := h0 p t rfl; (have e1 : flat [p.f0] = decU p.f0 := by simp [flat]); rw [cutS, tk, show flushB [] p.f0 = false from rfl, if_neg (by decide), List.nil_append]; by_cases hlm : lim < ((decU p.f0).length : Int)
    · rw [if_pos hlm, long_first lim t _ _ _ (by rw [e1]; exact hlm)]
      rfl
    · rw [if_neg hlm]; have ih := tk_cut lim t [p.f0] p.f1 (p.f1 + p.f2) (by simp) (by intro x hx; rw [List.mem_singleton.1 hx]; exact hp.1) ht (by rw [e1]; omega); rw [e1] at ih; rw [ih, hz]
theorem full_fine (b : List Int) (hB : Bytes b) (hl : b.length ≤ 100000000) : ∀ p ∈ full b, fine p := by
  have hdl := Ux.dc_len b 0; intro p hp; rcases List.mem_append.1 hp with h | h
  · exact dec_fine b.length b 0 hB (Int.le_refl _) (by omega) p h
  · exact rest_fine _ _ (by omega) (by omega) p h
theorem full_at0 (b : List Int) : ∀ p t, full b = p :: t → p.f1 = 0 := by
  intro p t h
  cases b with
  | nil => cases h
  | cons c r =>
    rw [Bk.full_ful, Bk.ful_cons] at h; rw [← (List.cons.inj h).1]
theorem split_cut (lim : Int) (b : List Int) (hB : Bytes b) (hl : b.length ≤ 100000000) (h1 : 1 ≤ lim) (h2 : lim ≤ 64) : splitF lim b = ((goodS lim (cutS (full b))).1, errOf (goodS lim (cutS (full b))).2) := by
  rw [tk_cutS lim (full b) (full_fine b hB hl) (full_at0 b)]; exact if_neg (by omega)
theorem goodS_all (lim : Int) : ∀ l : List SG, (goodS lim l).2 = false → (goodS lim l).1 = l
  | [], _ => rfl
  | s :: l, h => by
    rw [goodS] at h ⊢; split at h
    · cases h
    · rename_i hn; rw [if_neg hn]; exact congrArg (s :: ·) (goodS_all lim l h)
end Go.Proofs.YthffpkdadffinaaDoor.Sgp
namespace Go.Proofs.YthffpkdadffinaaDoor.Sgq
set_option linter.unusedVariables false
set_option linter.unusedSimpArgs false
open Go.Proofs.YthffpkdadffinaaDoor.Vd (decU)
open Go.Proofs.YthffpkdadffinaaDoor.Ve (opn)
open Go.Proofs.YthffpkdadffinaaDoor.Ux (Bytes one1 dc rest1 full dec)
open Go.Proofs.YthffpkdadffinaaDoor.En (enc fixr enc_byte enc_len)
open Go.RowKit YthffpkdadffinaaDoorW.PrintWords Ev0 X Oa Ob Vp0 Vr Vu Sga Sgb Sgc Sgd Sgp
theorem rdG {l : List SG} {i : Nat} (h : i < l.length) : rd_T67 l (i : Int) = l[i] := by unfold rd_T67; simp [List.getD_eq_getElem?_getD, List.getElem?_eq_getElem h]
theorem txt_size (rs : List Int) (h1 : ∀ x ∈ rs, I32 x) : (txt rs).size ≤ 12 * rs.length := by
  have := nrm_len3 rs h1; have h := (enc_len (nrm rs)).2; (have e1 : (txt rs).size = (enc (nrm rs)).length := by unfold txt; rw [← bytesOf_length, Ot.bytes_str _ (enc_byte _)]); rw [e1]; omega
theorem cutR_size : ∀ (t : List SP) (rs : List Int) (a e : Int), (∀ x ∈ rs, I32 x) → (∀ p ∈ t, fine p) → rs.length + t.length ≤ 80000000 → (∀ s ∈ cutR t rs a e, s.f0.size ≤ 1000000000) ∧ (cutR t rs a e).length ≤ t.length + 1
  | [], rs, a, e, h1, _, h3 => by
    refine ⟨fun s hs => ?_, by simp [cutR]⟩; rw [cutR, List.mem_singleton] at hs; rw [hs]; have h0 := txt_size rs h1; simp only [List.length_nil] at h3; (show (txt rs).size ≤ _); omega
  | p :: t, rs, a, e, h1, h2, h3 => by
    have hp := h2 p (List.mem_cons_self ..); (have ht := fun q hq => h2 q (List.mem_cons_of_mem _ hq)); rw [List.length_cons] at h3; rw [cutR]; split
    · have ih := cutR_size t [p.f0] p.f1 (p.f1 + p.f2) (by intro x hx; rw [List.mem_singleton.1 hx]; exact hp.1) ht (by simp; omega); have h0 := txt_size rs h1; refine ⟨fun s hs => ?_, by simp only [List.length_cons]; omega⟩; rcases List.mem_cons.1 hs with rfl | hs
      · (show (txt rs).size ≤ _); omega
      · exact ih.1 s hs
    · have ih := cutR_size t (rs ++ [p.f0]) a (p.f1 + p.f2) (by intro x hx; rcases List.mem_append.1 hx with h | h; (· exact h1 x h); (· rw [List.mem_singleton.1 h]; exact hp.1)) ht (by rw [List.length_append, List.length_singleton]; omega); exact ⟨ih.1, by simp only [List.length_cons]; omega⟩
theorem cutS_size (ps : List SP) (hf : ∀ p ∈ ps, fine p) (hl : ps.length ≤ 80000000) : (∀ s ∈ cutS ps, s.f0.size ≤ 1000000000) ∧ (cutS ps).length ≤ ps.length := by
  cases ps with
  | nil => exact ⟨by simp [cutS], by simp [cutS]⟩
  | cons p t =>
    have hp := hf p (List.mem_cons_self ..); rw [List.length_cons] at hl ⊢; exact cutR_size t [p.f0] p.f1 (p.f1 + p.f2) (by intro x hx; rw [List.mem_singleton.1 hx]; exact hp.1) (fun q hq => hf q (List.mem_cons_of_mem _ hq)) (by simp; omega)
end Go.Proofs.YthffpkdadffinaaDoor.Sgq
namespace Go.Proofs.YthffpkdadffinaaDoor.X
open Go.RowKit YthffpkdadffinaaDoorW.PrintWords YthffpkdadffinaaDoorW.PrintLast YthffpkdadffinaaDoorW.PrintMore
attribute [local go_sem] max2_int min2_int max_two min_two max_three min_three max_four min_four   
set_option linter.unusedVariables false
set_option linter.unusedSimpArgs false
def slices_Equal_string_string.l0 : Nat → List ByteArray → List ByteArray → Int → Int → Option (Bool)
 | 0, _, _, _, _ => none
 | k + 1, x0, x1, x12, x13 => if x13 < x12 then (if 0 ≤ x13 then (if x13 < (x0.length : Int) then (if x13 < (x1.length : Int) then (if (rdOf ByteArray.empty x0 x13).toList = (rdOf ByteArray.empty x1 x13).toList then (slices_Equal_string_string.l0 k x0 x1 x12 (wrap64 (x13 + 1))) else (some false)) else (none)) else (none)) else (none)) else (some true)
def slices_Equal_string_string.f (k : Nat) (l0 : List ByteArray) (l1 : List ByteArray) : Option (Bool) := if (l0.length : Int) = (l1.length : Int) then (slices_Equal_string_string.l0 k l0 l1 (l0.length : Int) 0) else (some false)
theorem slices_Equal_string_string.mono_l : ∀ k, (∀ y0 y1 y2 y3, LeO (slices_Equal_string_string.l0 k y0 y1 y2 y3) (slices_Equal_string_string.l0 (k + 1) y0 y1 y2 y3))
 | 0 => fun _ _ _ _ r h => by simp [slices_Equal_string_string.l0] at h
 | k + 1 => by
  have ih0 := slices_Equal_string_string.mono_l k
  ·intro y0 y1 y2 y3; unfold slices_Equal_string_string.l0; repeat' first | (with_reducible exact ih0 _ _ _ _) | (with_reducible exact LeO.refl _) | (with_reducible exact LeO.none _) | (with_reducible refine LeO.ite ?_ ?_) | (with_reducible refine LeO.bind ?_ (fun _ => ?_)) | exact ih0 _ _ _ _ | exact LeO.none _ | refine LeO.ite ?_ ?_ | refine LeO.bind ?_ (fun _ => ?_)
theorem slices_Equal_string_string.mono : ∀ a0 a1 k, LeO (slices_Equal_string_string.f k a0 a1) (slices_Equal_string_string.f (k + 1) a0 a1) := by
 intro a0 a1 k; have ih0 := slices_Equal_string_string.mono_l k; unfold slices_Equal_string_string.f; repeat' first | (with_reducible exact ih0 _ _ _ _) | (with_reducible exact LeO.refl _) | (with_reducible exact LeO.none _) | (with_reducible refine LeO.ite ?_ ?_) | (with_reducible refine LeO.bind ?_ (fun _ => ?_)) | exact ih0 _ _ _ _ | exact LeO.none _ | refine LeO.ite ?_ ?_ | refine LeO.bind ?_ (fun _ => ?_)
set_option maxHeartbeats 8000000 in
set_option maxRecDepth 100000 in
theorem slices_Equal_string_string.calls (k : Nat) (A0 : Option Addr) (c0 : Nat) (l0 : List ByteArray) (A1 : Option Addr) (c1 : Nat) (l1 : List ByteArray) (r : Bool) (w : World) (hr0 : Kd.C Kd.string w A0 l0.length l0) (hc0 : l0.length ≤ c0) (hr1 : Kd.C Kd.string w A1 l1.length l1) (hc1 : l1.length ≤ c1) (h : slices_Equal_string_string.f k l0 l1 = some r) :
  Calls Tryd.prog 80 #[.slice A0 l0.length c0, .slice A1 l1.length c1] w fun e w' => e = .returned (.bool r) ∧ Drawn0 w w' := by
 have HR0 := Aside0.mk hr0; have HC0 := Aside0.mk hc0; clear hr0 hc0; have HR1 := Aside0.mk hr1; have HC1 := Aside0.mk hc1; clear hr1 hc1; have H : (if (l0.length : Int) = (l1.length : Int) then (slices_Equal_string_string.l0 k l0 l1 (l0.length : Int) 0) else (some false)) = some r := h; clear h; by_cases c3 : (l0.length : Int) = (l1.length : Int)
 ·rw [if_pos c3] at H; have c3b0 : ((l0.length : Int) == (l1.length : Int)) = true := beq_iff_eq.mpr c3; have c3b1 : ((l0.length : Int) != (l1.length : Int)) = false := bne_eq_false_iff_eq.mpr c3; (have c3b2 : (l0.length == l1.length) = true := by first | simpa using c3 | (simp at c3 ⊢; omega)); clear c3; have H' := Aside0.mk H; clear H; go_enter Tryd.func80, Tryd.ntmps80; go_wp2; (repeat (go_quiet (fail); try go_wp2)); go_loopg [13] k (fun kq v13 w' => ∃ (x13_1 : Int), v13 = .int .i64 x13_1 ∧ Aside0 (slices_Equal_string_string.l0 kq l0 l1 (l0.length : Int) x13_1 = some r) ∧ Aside0 (kq ≤ k) ∧ Drawn0 w w')
  case atStart => exact ⟨(0), (by first | rfl | (simp; done) | (simp [*]; done)), H', ⟨Nat.le_refl _⟩, by repeat (first | exact Drawn0.refl _ | apply Drawn0.step)⟩
  case round =>
   clear H'; (try clear c1); (try clear p2); (try clear c3); (try clear c3b0); (try clear c3b1); (try clear c3b2); obtain ⟨x13_1, rfl, HA, HK1, ⟨m1, rfl⟩⟩ := hrel
   cases gk with
   | zero => exact absurd HA.out (by simp [slices_Equal_string_string.l0])
   | succ k1 =>
    have H := HA.out; clear HA; simp only [slices_Equal_string_string.l0] at H; by_cases c4 : x13_1 < (l0.length : Int)
    ·rw [if_pos c4] at H; have c4b0 : decide (x13_1 < (l0.length : Int)) = true := decide_eq_true c4; clear c4; by_cases c5 : 0 ≤ x13_1
     ·rw [if_pos c5] at H; have c5b0 : decide (0 ≤ x13_1) = true := decide_eq_true c5; clear c5; by_cases c6 : x13_1 < (l0.length : Int)
      ·rw [if_pos c6] at H; have c6b0 : decide (x13_1 < (l0.length : Int)) = true := decide_eq_true c6; clear c6; by_cases c7 : x13_1 < (l1.length : Int)
       ·rw [if_pos c7] at H; have c7b0 : decide (x13_1 < (l1.length : Int)) = true := decide_eq_true c7; clear c7; by_cases c8 : (rdOf ByteArray.empty l0 x13_1).toList = (rdOf ByteArray.empty l1 x13_1).toList
        ·rw [if_pos c8] at H; have c8b0 : ((rdOf ByteArray.empty l0 x13_1).toList == (rdOf ByteArray.empty l1 x13_1).toList) = true := beq_iff_eq.mpr c8; have c8b1 : ((rdOf ByteArray.empty l0 x13_1).toList != (rdOf ByteArray.empty l1 x13_1).toList) = false := bne_eq_false_iff_eq.mpr c8; clear c8; have H' := Aside0.mk H; clear H; have p210 : 0 ≤ (x13_1 : Int) := of_decide_eq_true (by first | (with_reducible assumption) | assumption); have q210 : x13_1 < (l0.length : Int) := of_decide_eq_true (by first | (with_reducible assumption) | assumption); obtain ⟨ad210, e210, hx210_0⟩ := Kd.at_string HR0.out x13_1 p210 q210; cases e210; replace p210 := eq_true p210; replace q210 := eq_true q210; have p211 : 0 ≤ (x13_1 : Int) := of_decide_eq_true (by first | (with_reducible assumption) | assumption); have q211 : x13_1 < (l1.length : Int) := of_decide_eq_true (by first | (with_reducible assumption) | assumption); obtain ⟨ad211, e211, hx211_0⟩ := Kd.at_string HR1.out x13_1 p211 q211; cases e211; replace p211 := eq_true p211; replace q211 := eq_true q211; go_wp2; (repeat (go_quiet (fail); try go_wp2)); go_roundg k1
         case measure => have := HK1.out; omega
         case rel => exact ⟨(wrap64 (x13_1 + 1)), (by first | rfl | (simp; done) | (simp [*]; done)), H', ⟨by have := HK1.out; omega⟩, by repeat (first | exact Drawn0.refl _ | apply Drawn0.step)⟩
        ·rw [if_neg c8] at H; have c8b0 : ((rdOf ByteArray.empty l0 x13_1).toList == (rdOf ByteArray.empty l1 x13_1).toList) = false := beq_eq_false_iff_ne.mpr c8; have c8b1 : ((rdOf ByteArray.empty l0 x13_1).toList != (rdOf ByteArray.empty l1 x13_1).toList) = true := bne_iff_ne.mpr c8; obtain rfl := Option.some.inj H; have p210 : 0 ≤ (x13_1 : Int) := of_decide_eq_true (by first | (with_reducible assumption) | assumption); have q210 : x13_1 < (l0.length : Int) := of_decide_eq_true (by first | (with_reducible assumption) | assumption); obtain ⟨ad210, e210, hx210_0⟩ := Kd.at_string HR0.out x13_1 p210 q210; cases e210; replace p210 := eq_true p210; replace q210 := eq_true q210; have p211 : 0 ≤ (x13_1 : Int) := of_decide_eq_true (by first | (with_reducible assumption) | assumption); have q211 : x13_1 < (l1.length : Int) := of_decide_eq_true (by first | (with_reducible assumption) | assumption); obtain ⟨ad211, e211, hx211_0⟩ := Kd.at_string HR1.out x13_1 p211 q211; cases e211; replace p211 := eq_true p211; replace q211 := eq_true q211; go_wp2; (repeat (go_quiet (fail); try go_wp2)); go_ret; exact ⟨by first | rfl | (simp; done) | (simp [*]; done), by repeat (first | exact Drawn0.refl _ | apply Drawn0.step)⟩
       ·rw [if_neg c7] at H; exact absurd H (by simp)
      ·rw [if_neg c6] at H; exact absurd H (by simp)
     ·rw [if_neg c5] at H; exact absurd H (by simp)
    ·rw [if_neg c4] at H; have c4b0 : decide (x13_1 < (l0.length : Int)) = false := decide_eq_false c4; clear c4; obtain rfl := Option.some.inj H; go_wp2; (repeat (go_quiet (fail); try go_wp2)); go_ret; exact ⟨by first | rfl | (simp; done) | (simp [*]; done), by repeat (first | exact Drawn0.refl _ | apply Drawn0.step)⟩
 ·rw [if_neg c3] at H; have c3b0 : ((l0.length : Int) == (l1.length : Int)) = false := beq_eq_false_iff_ne.mpr c3; have c3b1 : ((l0.length : Int) != (l1.length : Int)) = true := bne_iff_ne.mpr c3; (have c3b2 : (l0.length == l1.length) = false := by first | simpa using c3 | (simp at c3 ⊢; omega)); obtain rfl := Option.some.inj H; go_enter Tryd.func80, Tryd.ntmps80; go_wp2; (repeat (go_quiet (fail); try go_wp2)); go_ret; exact ⟨by first | rfl | (simp; done) | (simp [*]; done), by repeat (first | exact Drawn0.refl _ | apply Drawn0.step)⟩
end Go.Proofs.YthffpkdadffinaaDoor.X
namespace Go.Proofs.YthffpkdadffinaaDoor.X
open Go.RowKit YthffpkdadffinaaDoorW.PrintWords YthffpkdadffinaaDoorW.PrintLast YthffpkdadffinaaDoorW.PrintMore
attribute [local go_sem] max2_int min2_int max_two min_two max_three min_three max_four min_four   
set_option linter.unusedVariables false
set_option linter.unusedSimpArgs false
def seg_Same.f (k : Nat) (l0 : List Int) (l1 : List Int) : Option (Bool) := (seg_Texts.f l0).bind fun t212 => ((seg_Texts.f l1).bind fun t215 => ((slices_Equal_string_string.f k t212 t215).bind fun t218 => (some t218)))
theorem seg_Same.mono : ∀ a0 a1 k, LeO (seg_Same.f k a0 a1) (seg_Same.f (k + 1) a0 a1) := by
 intro a0 a1 k; unfold seg_Same.f; repeat' first | (with_reducible exact slices_Equal_string_string.mono _ _ _) | (with_reducible exact LeO.refl _) | (with_reducible exact LeO.none _) | (with_reducible refine LeO.ite ?_ ?_) | (with_reducible refine LeO.bind ?_ (fun _ => ?_)) | exact slices_Equal_string_string.mono _ _ _ | exact LeO.none _ | refine LeO.ite ?_ ?_ | refine LeO.bind ?_ (fun _ => ?_)
set_option maxHeartbeats 8000000 in
set_option maxRecDepth 100000 in
theorem seg_Same.calls (k : Nat) (A0 : Option Addr) (c0 : Nat) (l0 : List Int) (A1 : Option Addr) (c1 : Nat) (l1 : List Int) (r : Bool) (w : World) (hr0 : Kd.C (Kd.int .u8) w A0 l0.length l0) (hc0 : l0.length ≤ c0) (hr1 : Kd.C (Kd.int .u8) w A1 l1.length l1) (hc1 : l1.length ≤ c1) (h : seg_Same.f k l0 l1 = some r) (hG0 : Va.G w) :
  Calls Tryd.prog 40 #[.slice A0 l0.length c0, .slice A1 l1.length c1] w fun e w' => e = .returned (.bool r) ∧ Below w.heap.size w w' := by
 have HG := Aside0.mk hG0; clear hG0; have HR0 := Aside0.mk hr0; have HC0 := Aside0.mk hc0; clear hr0 hc0; have HR1 := Aside0.mk hr1; have HC1 := Aside0.mk hc1; clear hr1 hc1; have HB := Aside0.mk (Below.refl w.heap.size w); have H : ((seg_Texts.f l0).bind fun t212 => ((seg_Texts.f l1).bind fun t215 => ((slices_Equal_string_string.f k t212 t215).bind fun t218 => (some t218)))) = some r := h; clear h; replace H := Option.bind_eq_some_iff.mp H; obtain ⟨t212, A30, H⟩ := H; (try dsimp only at H); have A3 := Aside0.mk A30; clear A30; replace H := Option.bind_eq_some_iff.mp H; obtain ⟨t215, A40, H⟩ := H; (try dsimp only at H); have A4 := Aside0.mk A40; clear A40; replace H := Option.bind_eq_some_iff.mp H; obtain ⟨t218, A50, H⟩ := H; replace H : (some t218) = some r := H; have A5 := Aside0.mk A50; clear A50; obtain rfl := Option.some.inj H; go_enter Tryd.func40, Tryd.ntmps40; go_wp2_with (first | ((with_reducible refine gate_callee (f := 41) rfl ?_); refine goesL_ (some 6) rfl rfl Tryd.func41 (by kernel_rfl) rfl #[.slice A0 l0.length c0] rfl (by (try simp only [List.map_toArray, List.map_cons, List.map_nil]); first | done | rfl | (simp only [List.length_drop, List.length_take]; rfl)) ?_; (with_reducible refine (seg_Texts.calls _ _ l0 t212 _ ?side1 ?side2 A3.out (by first | exact HG.out | exact Va.G.below HG.out (by repeat (first | (with_reducible first | exact HB.out | apply below_alloc | apply pw_below_drewN | apply below_drew1) | exact HB.out)))).mono ?_); (case side1 => repeat (first | exact HR0.out | (with_reducible refine Kd.C_alloc ?_ _) | (with_reducible refine Kd.C_drewN ?_ _) | (with_reducible refine Kd.C_drew ?_))); (case side2 => exact HC0.out); rintro e w6 ⟨v213, rfl, ho0, hb⟩; refine ⟨_, rfl, ?_⟩; have n0_ := Aside0.mk (Kd.R_lower ho0 (below_size (by repeat (first | (with_reducible first | exact HB.out | apply below_alloc | apply pw_below_drewN | apply below_drew1) | exact HB.out)))); have n1_ := Aside0.mk (below_step (by repeat (first | (with_reducible first | exact HB.out | apply below_alloc | apply pw_below_drewN | apply below_drew1) | exact HB.out)) hb); clear HB; have HO214 := n0_; have HB := n1_; clear n0_ n1_; (try clear hb); (try clear hb2); (try clear hk); (try clear hi); (try clear ho0)) | ((with_reducible refine gate_callee (f := 41) rfl ?_); refine goesL_ (some 8) rfl rfl Tryd.func41 (by kernel_rfl) rfl #[.slice A1 l1.length c1] rfl (by (try simp only [List.map_toArray, List.map_cons, List.map_nil]); first | done | rfl | (simp only [List.length_drop, List.length_take]; rfl)) ?_; (with_reducible refine (seg_Texts.calls _ _ l1 t215 _ ?side1 ?side2 A4.out (by first | exact HG.out | exact Va.G.below HG.out (by repeat (first | (with_reducible first | exact HB.out | apply below_alloc | apply pw_below_drewN | apply below_drew1) | exact HB.out)))).mono ?_); (case side1 => repeat (first | exact (Kd.C_below HR1.out HB.out) | (with_reducible refine Kd.C_alloc ?_ _) | (with_reducible refine Kd.C_drewN ?_ _) | (with_reducible refine Kd.C_drew ?_))); (case side2 => exact HC1.out); rintro e w7 ⟨v216, rfl, ho0, hb⟩; refine ⟨_, rfl, ?_⟩; have n0_ := Aside0.mk (Kd.R_elder' (by (with_reducible repeat (first | apply Kd.R_alloc | apply Kd.R_drewN | apply Kd.R_drew)); exact HO214.out) (Kd.R_base ho0) hb); have n1_ := Aside0.mk (Kd.R_lower (Kd.R_new' ho0 (Kd.R_lt (by (with_reducible repeat (first | apply Kd.R_alloc | apply Kd.R_drewN | apply Kd.R_drew)); exact HO214.out))) (below_size (by repeat (first | (with_reducible first | exact HB.out | apply below_alloc | apply pw_below_drewN | apply below_drew1) | exact HB.out)))); have n2_ := Aside0.mk (below_step (by repeat (first | (with_reducible first | exact HB.out | apply below_alloc | apply pw_below_drewN | apply below_drew1) | exact HB.out)) hb); clear HO214; clear HB; have HO214 := n0_; have HO217 := n1_; have HB := n2_; clear n0_ n1_ n2_; (try clear hb); (try clear hb2); (try clear hk); (try clear hi); (try clear ho0); obtain ⟨Ao8, co8, eo8⟩ := Kd.R_slice HO214.out; subst eo8; obtain ⟨Ao9, co9, eo9⟩ := Kd.R_slice HO217.out; subst eo9) | ((with_reducible refine gate_callee (f := 80) rfl ?_); refine goesL_ (some 9) rfl rfl Tryd.func80 (by kernel_rfl) rfl #[.slice Ao8 t212.length co8, .slice Ao9 t215.length co9] rfl (by (try simp only [List.map_toArray, List.map_cons, List.map_nil]); first | done | rfl | (simp only [List.length_drop, List.length_take]; rfl)) ?_; (with_reducible refine (slices_Equal_string_string.calls k _ _ t212 _ _ t215 t218 _ ?side1 ?side2 ?side3 ?side4 A5.out).mono ?_); (case side1 => repeat (first | exact (Kd.R_reads' HO214.out).2.2 | (with_reducible refine Kd.C_alloc ?_ _) | (with_reducible refine Kd.C_drewN ?_ _) | (with_reducible refine Kd.C_drew ?_))); (case side2 => exact (Kd.R_reads' HO214.out).2.1); (case side3 => repeat (first | exact (Kd.R_reads' HO217.out).2.2 | (with_reducible refine Kd.C_alloc ?_ _) | (with_reducible refine Kd.C_drewN ?_ _) | (with_reducible refine Kd.C_drew ?_))); (case side4 => exact (Kd.R_reads' HO217.out).2.1); rintro e w' ⟨rfl, ⟨nd, rfl⟩⟩; refine ⟨_, rfl, ?_⟩)); go_ret; exact ⟨by first | rfl | (simp [errW_none, errW_some] <;> rfl) | (simp [*, errW_none, errW_some] <;> rfl), by repeat (first | (with_reducible first | exact HB.out | apply below_alloc | apply pw_below_drewN | apply below_drew1) | exact HB.out)⟩
end Go.Proofs.YthffpkdadffinaaDoor.X
namespace Go.Proofs.YthffpkdadffinaaDoor.Sgf
set_option linter.unusedVariables false
set_option linter.unusedSimpArgs false
open Go.Proofs.YthffpkdadffinaaDoor.Fr (K3 T3)
open Go.Proofs.YthffpkdadffinaaDoor.Ux (Bytes one1 dc rest1 full dec)
open Go.Proofs.YthffpkdadffinaaDoor.Dc (decT)
open Go.RowKit YthffpkdadffinaaDoorW.PrintWords Hp Fm X Va Oa Vp0 Cn Sga Sgb Sgc Sgd
section
variable {w0 w w' : World} {L M : List Th}
theorem litB (W : World) (cs : Array Value) (fr : Nat × Nat) (xs : List Int) (hc : cs.toList = nums .u8 xs) (hm : xs.length ≤ 9223372036854775807) : KB.C (W.alloc (.cells cs 5 fr)) (some ⟨W.heap.size, 0, none⟩) xs.length xs :=
  rdC (lit_reads (k := .u8) (heap_alloc_new W _) hc hm)
end
theorem conv2 (W : World) (o : Obj) (C : Array Value) (n c : Nat) : (convert 23 23 (.slice (some ⟨W.heap.size + 1, 0, none⟩) n c)).run Tryd.prog ((W.alloc o).alloc (.cells C 5)) = .ok (.slice (some ⟨W.heap.size + 1, 0, none⟩) n c) ((W.alloc o).alloc (.cells C 5 (C.size, C.size + 1))) := by
  have := Lib.run_convert_bytes_const (P := Tryd.prog) (W.alloc o) 23 5 C n c Tryd.underlying23 Tryd.underlying5; rw [World.size_alloc] at this; exact this
theorem sameC (W : World) (hG : G W) : Calls Tryd.prog 40 #[.slice (some ⟨W.heap.size, 0, none⟩) 2 2, .slice (some ⟨W.heap.size + 1, 0, none⟩) 3 3] ((W.alloc (.cells #[.int .u8 195, .int .u8 169] 5 (2, 3))).alloc (.cells #[.int .u8 101, .int .u8 204, .int .u8 129] 5 (3, 4))) fun e w' => e = .returned (.bool true) ∧ Below W.heap.size W w' := by
  have b1 := below_alloc (Below.refl W.heap.size W) (.cells #[.int .u8 195, .int .u8 169] 5 (2, 3)); have b2 := below_alloc (Below.refl _ (W.alloc (.cells #[.int .u8 195, .int .u8 169] 5 (2, 3)))) (.cells #[.int .u8 101, .int .u8 204, .int .u8 129] 5 (3, 4)); have b12 := below_then b1 b1.size b2; have h2 := litB (W.alloc (.cells #[.int .u8 195, .int .u8 169] 5 (2, 3))) #[.int .u8 101, .int .u8 204, .int .u8 129] (3, 4) [101, 204, 129] rfl (by simp); rw [World.size_alloc] at h2; (refine (seg_Same.calls 40 _ 2 [195, 169] _ 3 [101, 204, 129] true _ (Kd.C_below (litB W #[.int .u8 195, .int .u8 169] (2, 3) [195, 169] rfl (by simp)) b2) (Nat.le_refl _) h2 (Nat.le_refl _) (by kernel_rfl) (hG.below b12)).mono fun e w' ⟨h1, h3⟩ => ⟨h1, ?_⟩); exact below_then b12 b12.size h3
def g1 : SG := ⟨⟨#[101, 204, 129]⟩, 0, 3⟩
def g2 : SG := ⟨⟨#[120]⟩, 3, 4⟩
def g3 : SG := ⟨⟨#[120]⟩, 0, 1⟩
theorem d1 : dc ([] ++ [101]) 0 = ([⟨101, 0, 1⟩], [], 1) := by kernel_rfl
theorem t1 : tk 8 [⟨101, 0, 1⟩] [] 0 0 = ([], [101], 0, 1, false) := by kernel_rfl
theorem d2 : dc ([] ++ [204]) 1 = ([], [204], 1) := by kernel_rfl
theorem t2 : tk 8 [] [101] 0 1 = ([], [101], 0, 1, false) := rfl
theorem d3 : dc ([204] ++ [129, 120]) 1 = ([⟨769, 1, 2⟩, ⟨120, 3, 1⟩], [], 4) := by kernel_rfl
theorem t3 : tk 8 [⟨769, 1, 2⟩, ⟨120, 3, 1⟩] [101] 0 1 = ([g1], [120], 3, 4, false) := by kernel_rfl
theorem t4 : tk 8 (rest1 [] 4) [120] 3 4 = ([], [120], 3, 4, false) := rfl
theorem f4 : fin ([], [120], 3, 4, false) = [g2] := by kernel_rfl
end Go.Proofs.YthffpkdadffinaaDoor.Sgf
namespace Go.Proofs.YthffpkdadffinaaDoor.X
set_option linter.unusedVariables false
set_option linter.unusedSimpArgs false
open Go.RowKit YthffpkdadffinaaDoorW.PrintWords
end Go.Proofs.YthffpkdadffinaaDoor.X
namespace Go.Proofs.YthffpkdadffinaaDoor.Sgr
set_option linter.unusedVariables false
set_option linter.unusedSimpArgs false
open Go.Proofs.YthffpkdadffinaaDoor.Ux (Bytes one1 dc rest1 full dec)
open Go.RowKit YthffpkdadffinaaDoorW.PrintWords Ev0 X Oa Ob Vp0 Vr Vu Sga Sgb Sgc Sgd Sgp Sgq
theorem fsize (b : List Int) (hB : Bytes b) (hl : b.length ≤ 10000000) : (∀ s ∈ cutS (full b), s.f0.size ≤ 1000000000) ∧ (cutS (full b)).length ≤ b.length := by
  have hfl := Ud.full_len b; have h := cutS_size (full b) (full_fine b hB (by omega)) (by omega); exact ⟨h.1, by omega⟩
theorem ba_loop (b : ByteArray) : ∀ (q i : Nat) (r : List UInt8), i + q = b.size → ByteArray.toList.loop b i r = r.reverse ++ b.data.toList.drop i := by
  intro q
  induction q with
  | zero =>
    intro i r h; rw [ByteArray.toList.loop]; rw [if_neg (by omega), List.drop_eq_nil_of_le (by rw [Array.length_toList]; show b.size ≤ i; omega), List.append_nil]
  | succ q ih =>
    intro i r h; (have hi : i < b.data.toList.length := by rw [Array.length_toList]; show i < b.size; omega); rw [ByteArray.toList.loop, if_pos (by omega), ih (i + 1) _ (by omega), List.drop_eq_getElem_cons hi]
    have e : b.get! i = b.data.toList[i] := by
      rw [Array.getElem_toList]; (show b.data[i]! = _); exact getElem!_pos b.data i _
    rw [e]; simp
theorem ba_data (b : ByteArray) : b.toList = b.data.toList := by
  unfold ByteArray.toList; rw [ba_loop b b.size 0 [] (by omega)]; simp
theorem ba_list (a b : ByteArray) : a.toList = b.toList ↔ a = b := by
  rw [ba_data, ba_data]; constructor
  · intro h; cases a; cases b; exact congrArg ByteArray.mk (Array.toList_inj.1 h)
  · intro h; rw [h]
theorem bytesB_mk {l : List Int} (h : Bytes l) : bytesB l = true := by
  unfold bytesB; rw [List.all_eq_true]; intro x hx; have := h x hx; simp; omega
end Go.Proofs.YthffpkdadffinaaDoor.Sgr
namespace Go.Proofs.YthffpkdadffinaaDoor.Ur
set_option linter.unusedVariables false
set_option linter.unusedSimpArgs false
open Go.RowKit YthffpkdadffinaaDoorW.PrintWords Hp X Ux
theorem bnd_lo {c : Int} {bs : List (Int × Int)} (h : bnd c = some bs) : ∀ b, b ∈ bs → 128 ≤ b.1 ∧ b.2 ≤ 191 := by
  unfold bnd at h; split at h
  · cases h; simp
  · split at h
    · cases h
    · split at h
      · cases h; simp
      · split at h
        · cases h; intro b hb; simp at hb; rcases hb with rfl | rfl
          · constructor <;> simp only <;> split <;> omega
          · simp
        · cases h; intro b hb; simp at hb; rcases hb with rfl | rfl
          · constructor <;> simp only <;> split <;> omega
          · simp
theorem cont_cut : ∀ (bs : List (Int × Int)) (t : List Int) (r i : Int) (c : Int) (s : List Int), (∀ b, b ∈ bs → 128 ≤ b.1) → c < 128 → (cont bs t r i).2.2 = true → cont bs (t ++ c :: s) r i = (65533, i + t.length, false)
  | [], t, r, i, c, s, _, _, h => by simp [cont] at h
  | (lo, hi) :: bs, [], r, i, c, s, hb, hc, h => by
    have := hb (lo, hi) List.mem_cons_self; simp only [List.nil_append, cont]; rw [if_pos (.inl (by simp only at this; omega))]; simp
  | (lo, hi) :: bs, x :: t, r, i, c, s, hb, hc, h => by
    simp only [cont, List.cons_append] at h ⊢; split
    · rename_i hx; rw [if_pos hx] at h; simp at h
    · rename_i hx; rw [if_neg hx] at h; rw [cont_cut bs t _ _ c s (fun b hb2 => hb b (List.mem_cons_of_mem _ hb2)) hc h]; simp only [List.length_cons]; congr 2
      push_cast; omega
theorem one1_cut (x : Int) (t : List Int) (c : Int) (s : List Int) (hc : c < 128) (h : (one1 x t).2.2 = true) : one1 x (t ++ c :: s) = (65533, (1 : Int) + (t.length : Int), false) := by
  unfold one1 at h ⊢
  cases hb : bnd x with
  | none => rw [hb] at h; simp at h
  | some bs =>
    rw [hb] at h; exact cont_cut bs t _ _ c s (fun b hb2 => (bnd_lo hb b hb2).1) hc h
theorem one1_ascii (c : Int) (hc : c < 128) (t : List Int) : one1 c t = (c, 1, false) := by
  simp [one1, bnd, st, hc, cont]
theorem dc_ascii (c : Int) (hc : c < 128) (p : Int) : dc [c] p = ([(⟨c, p, 1⟩ : S103)], [], p + 1) := by
  rw [dc_cons, one1_ascii c hc]; simp [dc_nil]
theorem dc_cut (r : List Int) (p : Int) (c : Int) (hc : c < 128) (hr : dc r p = ([], r, p)) : dc (r ++ [c]) p = (rest1 r p ++ [(⟨c, p + r.length, 1⟩ : S103)], [], p + r.length + 1) := by
  cases r with
  | nil => simp [dc_ascii c hc, rest1]
  | cons x t =>
    have hm : (one1 x t).2.2 = true := by
      rw [dc_cons] at hr; split at hr
      · assumption
      · simp at hr
    rw [List.cons_append, dc_cons, one1_cut x t c [] hc hm]; simp only [Bool.false_eq_true, if_false]
    have e : (x :: (t ++ [c])).drop ((1 : Int) + (t.length : Int)).toNat = [c] := by
      rw [show ((1 : Int) + (t.length : Int)).toNat = t.length + 1 by omega, ← List.cons_append]; rw [List.drop_append_of_le_length (by simp)]; simp
    rw [e, dc_ascii c hc]; (have e2 : (1 : Int) + (t.length : Int) = ((t.length + 1 : Nat) : Int) := by push_cast; omega); simp [rest1, e2]
theorem full_snoc (b : List Int) (c : Int) (hc : c < 128) : full (b ++ [c]) = full b ++ [(⟨c, b.length, 1⟩ : S103)] := by
  have h1 := dc_rest b 0; have h2 := dc_len b 0; unfold full; rw [dc_append, dc_cut _ _ c hc h1.2]; simp only [List.append_assoc, rest1, if_true, List.append_nil]; congr 2; rw [show (dc b 0).2.2 + ((dc b 0).2.1.length : Int) = (b.length : Int) by omega]
end Go.Proofs.YthffpkdadffinaaDoor.Ur
namespace Go.Proofs.YthffpkdadffinaaDoor.Oqe
set_option linter.unusedVariables false
set_option linter.unusedSimpArgs false
open Go.Proofs.YthffpkdadffinaaDoor.Vd (decU)
open Go.RowKit YthffpkdadffinaaDoorW.PrintWords Ev0 X Va Ve Vp0 Vr Vu Na Oa Ob
theorem nrm_cut (a b : List Int) (hb : b = [] ∨ ∃ z t, flat b = z :: t ∧ cls z = 0) : nrm (a ++ b) = nrm a ++ nrm b := by
  unfold nrm; rw [flat_app]; refine ordL_cut _ _ ?_; rcases hb with rfl | ⟨z, t, h, hz⟩
  · exact .inl rfl
  · exact .inr ⟨z, t, h, hz⟩
theorem opens_cut (l : List Int) (n : Nat) (hn : n < l.length) (ho : opn l[n] = true) : nrm l = nrm (l.take n) ++ nrm (l.drop n) := by
  have h := nrm_cut (l.take n) (l.drop n) (.inr ?_)
  · rwa [List.take_append_drop] at h
  · rw [List.drop_eq_getElem_cons hn, flat_cons]; have hne := Ve.decF_ne 4 l[n]; unfold opn at ho; (have h0 : cls ((decU l[n]).getD 0 0) = 0 := by simpa using (Bool.and_eq_true_iff.1 ho).1); have e : decU l[n] = Vd.decF 4 l[n] := rfl; rw [← e] at hne
    match hd : decU l[n], hne with
    | z :: t, _ =>
      rw [hd] at h0; exact ⟨z, t ++ flat (l.drop (n + 1)), by simp, by simpa using h0⟩
end Go.Proofs.YthffpkdadffinaaDoor.Oqe
