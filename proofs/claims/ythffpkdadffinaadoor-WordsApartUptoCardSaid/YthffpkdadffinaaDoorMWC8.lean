/-
  Several texts of this claim in one: what its law's proof uses.
-/
import Derived.Test.YthffpkdadffinaaDoorMWC7
import Derived.Test.YthffpkdadffinaaDoorMWC6
import Derived.Test.YthffpkdadffinaaDoorMWC5
import Derived.Test.YthffpkdadffinaaDoorMWC2
import Derived.Test.YthffpkdadffinaaDoorMWC4
import Derived.Lib.SlBytesConst
namespace Go.Proofs.YthffpkdadffinaaDoor.Sgd
set_option linter.unusedVariables false
set_option linter.unusedSimpArgs false
open Go.Proofs.YthffpkdadffinaaDoor.Vd (decU)
open Go.Proofs.YthffpkdadffinaaDoor.Ve (opn)
open Go.Proofs.YthffpkdadffinaaDoor.Fr (K3 T3)
open Go.Proofs.YthffpkdadffinaaDoor.Ux (Bytes one1 dc rest1 full dec)
open Go.Proofs.YthffpkdadffinaaDoor.Dc (decT)
open Go.RowKit Go.Proofs.YthffpkdadffinaaDoorW.PrintWords Go.Proofs.YthffpkdadffinaaDoor.Hp Go.Proofs.YthffpkdadffinaaDoor.Fm Go.Proofs.YthffpkdadffinaaDoor.X Go.Proofs.YthffpkdadffinaaDoor.Va Go.Proofs.YthffpkdadffinaaDoor.Oa Go.Proofs.YthffpkdadffinaaDoor.Vp0 Go.Proofs.YthffpkdadffinaaDoor.Cn Go.Proofs.YthffpkdadffinaaDoor.Sga Go.Proofs.YthffpkdadffinaaDoor.Sgb Go.Proofs.YthffpkdadffinaaDoor.Sgc
theorem tk_app (lim : Int) : ∀ (ps qs : List SP) (o : List Int) (a e : Int), tk lim (ps ++ qs) o a e = if (tk lim ps o a e).2.2.2.2 = true then tk lim ps o a e else catT (tk lim ps o a e).1 (tk lim qs (tk lim ps o a e).2.1 (tk lim ps o a e).2.2.1 (tk lim ps o a e).2.2.2.1)
  | [], qs, o, a, e => by simp [tk, catT]
  | p :: ps, qs, o, a, e => by
    rw [List.cons_append, tk, tk]
    split
    · split
      · simp
      · rw [tk_app lim ps qs]
        by_cases hb : (tk lim ps (decU p.f0) p.f1 (p.f1 + p.f2)).2.2.2.2 = true
        · rw [if_pos hb, if_pos hb]
        · rw [if_neg hb, if_neg hb]; simp [catT]
    · split
      · simp
      · exact tk_app lim ps qs _ _ _
theorem fin_cat (x : List SG) (r : List SG × List Int × Int × Int × Bool) : fin (catT x r) = x ++ fin r := by
  unfold fin catT
  simp only
  split
  · rfl
  · split
    · rfl
    · rw [List.append_assoc]
theorem tk_nobad (lim : Int) : ∀ (ps : List SP) (o : List Int) (a e : Int), (∀ p ∈ ps, fine p) → (o.length : Int) + 3 * ps.length ≤ lim → (tk lim ps o a e).2.2.2.2 = false
  | [], o, a, e, _, _ => rfl
  | p :: ps, o, a, e, hf, h => by
    have hd := Oa.dec_len3 p.f0 (hf p (List.mem_cons_self ..)).1
    have ht := fun q hq => hf q (List.mem_cons_of_mem _ hq)
    rw [List.length_cons] at h
    have ho : (0 : Int) ≤ o.length := by omega
    rw [tk]
    split
    · rw [if_neg (by omega)]
      exact tk_nobad lim ps _ _ _ ht (by omega)
    · rw [if_neg (by rw [List.length_append]; omega)]
      exact tk_nobad lim ps _ _ _ ht (by rw [List.length_append]; omega)
def segs (lim : Int) (b : List Int) : List SG × List Int × Int × Int × Bool := tk lim (full b) [] 0 0
def splitF (lim : Int) (b : List Int) : List SG × Int := if lim < 1 ∨ lim > 64 then ([], 1) else (fin (segs lim b), errOf (segs lim b).2.2.2.2)
section
variable {w0 w : World} {L : List Th}
theorem NewNo (w : World) (lim : Int) (h : lim < 1 ∨ lim > 64) : Calls Tryd.prog 14 #[.int .i64 lim] w fun E w' => E = .returned (.tuple #[.pointer none, .int .i64 1]) ∧ w = w' := by
  by_cases h1 : lim < 1
  · have hd : decide (lim < 1) = true := decide_eq_true h1
    go_enter Tryd.func14, Tryd.ntmps14
    go_wp2
    go_ret2
    exact ⟨rfl, rfl⟩
  · have hd : decide (lim < 1) = false := decide_eq_false h1
    have hd2 : decide (lim > 64) = true := decide_eq_true (by omega)
    have hd3 : decide (64 < lim) = true := hd2
    go_enter Tryd.func14, Tryd.ntmps14
    go_wp2
    go_ret2
    exact ⟨rfl, rfl⟩
theorem seg3 (d x o : Th) (L : List Th) : ((L ++ [d]) ++ [x] ++ [o]).Perm (x :: o :: d :: L) := by
  have h1 : ((L ++ [d]) ++ [x] ++ [o]).Perm ([x, o] ++ (L ++ [d])) := by
    have e : (L ++ [d]) ++ [x] ++ [o] = (L ++ [d]) ++ [x, o] := by simp
    rw [e]
    exact List.perm_append_comm
  refine h1.trans (.cons x (.cons o ?_))
  exact List.perm_append_comm (l₁ := L) (l₂ := [d])
theorem NewOk (h : Sep w0 L w) (lim : Int) (h1 : 1 ≤ lim) (h2 : lim ≤ 64) : Calls Tryd.prog 14 #[.int .i64 lim] w fun E w' => ∃ g gd, E = .returned (.tuple #[.pointer (some ⟨g, 0, none⟩), .int .i64 0]) ∧ Seg w0 g gd lim [] 0 false [] 0 0 false 0 L w' := by
  have hd : decide (lim < 1) = false := decide_eq_false (by omega)
  have hd2 : decide (lim > 64) = false := decide_eq_false (by omega)
  have hd3 : decide (64 < lim) = false := hd2
  have H := Aside0.mk (Dc.NewS h)
  clear h1 h2
  go_enter Tryd.func14, Tryd.ntmps14
  go_wp2_with (first | (go_at_call 42; go_must (refine H.out.mono ?_; rintro E w1 ⟨gd, rfl, p1⟩; have S1 := Aside0.mk p1; clear p1)))
  go_ret2
  refine ⟨w1.heap.size, gd, rfl, .slice none 0 0, ?_⟩
  have s := ((S1.out.blk_new (segCells gd lim (.slice none 0 0) 0 0 false 0) TS).empty K3 T3 w0.heap.size)
  exact s.perm (seg3 _ _ _ _)
end
theorem kG_KM {w w' : World} {base : Nat} {ok : Nat → Prop} (x : SG) (cs : List Value) (h : kG.K w x cs) : kG.M w' base ok x cs := by
  obtain rfl := k67_open h
  exact k67_mkM _ _ _ _
def SplitPost (w : World) (r : List SG × Int) (E : Ending) (w' : World) : Prop := ∃ v, E = .returned (.tuple #[v, .int .i64 r.2]) ∧ kG.R TG w' w.heap.size (fun _ => True) v r.1 ∧ Below w.heap.size w w'
theorem post_of {w w' : World} {L : List Th} (h : Sep w L w') (i : Nat) {v : Value} {l : List SG} (hi : L[i]? = some (rowT kG TG w.heap.size v l)) : kG.R TG w' w.heap.size (fun _ => True) v l := by
  obtain ⟨ok, h1⟩ := h.one i _ hi
  exact Kd.R_mono h1 (fun _ _ => trivial)
set_option maxRecDepth 100000 in
set_option maxHeartbeats 4000000 in
theorem SplitP (w : World) (hG : G w) (A : Option Addr) (n c : Nat) (b : List Int) (hC : KB.C w A n b) (hn : n = b.length) (hB : Bytes b) (hl : n ≤ 10000000) (lim : Int) :
    Calls Tryd.prog 39 #[.slice A n c, .int .i64 lim] w (SplitPost w (splitF lim b)) := by
  by_cases hlm : lim < 1 ∨ lim > 64
  · have HP := Aside0.mk (show ∀ E w', E = .returned (.tuple #[.slice none 0 0, .int .i64 1]) → w' = w → SplitPost w (splitF lim b) E w' from fun E w' h1 h2 => by
      subst h1 h2
      unfold splitF
      rw [if_pos hlm]
      exact ⟨_, rfl, Kd.R_nil _ _ _ _ _, Below.refl _ _⟩)
    have HN := Aside0.mk (NewNo w lim hlm)
    clear hlm hC hn hB hl
    go_enter Tryd.func39, Tryd.ntmps39
    go_wp2_with (first | (go_at_call 14; go_must (refine HN.out.mono ?_; rintro E w1 ⟨rfl, rfl⟩)))
    go_ret2
    exact HP.out _ _ rfl rfl
  · have hsp : splitF lim b = (fin (segs lim b), errOf (segs lim b).2.2.2.2) := if_neg hlm
    have hdl := Ux.dc_len b 0
    have hdr := Ux.dc_rest b 0
    have hff := dec_fine b.length b 0 hB (Int.le_refl _) (by omega)
    rw [show dec b.length b 0 = dc b 0 from rfl] at hff
    obtain ⟨pts, hpts⟩ : ∃ pts, pts = (dc b 0).1 := ⟨_, rfl⟩
    obtain ⟨kept, hkept⟩ : ∃ kept, kept = (dc b 0).2.1 := ⟨_, rfl⟩
    obtain ⟨dat, hdat⟩ : ∃ dat, dat = (dc b 0).2.2 := ⟨_, rfl⟩
    have hdc : dc ([] ++ b) 0 = (pts, kept, dat) := by rw [List.nil_append, hpts, hkept, hdat]
    have hfull : full b = pts ++ rest1 kept dat := by rw [hpts, hkept, hdat]; rfl
    rw [← hpts] at hff
    rw [← hpts, ← hkept, ← hdat] at hdl
    rw [← hkept] at hdr
    obtain ⟨R, hR⟩ : ∃ R, R = tk lim pts [] 0 0 := ⟨_, rfl⟩
    have hop := tk_open lim (by omega) pts [] 0 0 (by simp; omega) (by simp) hff
    have hseg : segs lim b = if R.2.2.2.2 = true then R else catT R.1 (tk lim (rest1 kept dat) R.2.1 R.2.2.1 R.2.2.2.1) := by
      unfold segs
      rw [hfull, tk_app, ← hR]
    rw [← hR] at hop
    have HN := Aside0.mk (NewOk (Sep.nil w) lim (by omega) (by omega))
    have HDC := Aside0.mk hdc
    have HRR := Aside0.mk hR
    have HSP := Aside0.mk hsp
    have HSG := Aside0.mk hseg
    have HC := Aside0.mk hC
    have HB := Aside0.mk hB
    have HOP := Aside0.mk hop
    have hlim1 : 0 ≤ lim := by omega
    have hlim2 : lim ≤ 50000000 := by omega
    have hkl : kept.length ≤ 3 := hdr.1
    have hda0 : 0 ≤ dat ∧ dat ≤ 1000000000000 := by omega
    have HDA := Aside0.mk hda0
    have hpl : pts.length ≤ 10000000 := by omega
    clear hlm hC hn hB hsp hdl hdr hff hpts hkept hdat hdc hfull hR hop hseg hda0
    go_enter Tryd.func39, Tryd.ntmps39
    go_upto_region 5 with (first | (go_at_call 14; go_must (refine HN.out.mono ?_; rintro E w1 ⟨g, gd, rfl, p1⟩; have S1 := Aside0.mk p1; clear p1)) | (go_at_call 15; go_must (refine (WriteOk w hG w1 g gd lim [] 0 [] 0 0 [] S1.out A n c b (by obtain ⟨_, s⟩ := S1.out; exact Kd.C_below HC.out s.below) (by rw [List.nil_append]; exact HB.out) (by simp; omega) (by omega) hlim2 (by simp; omega) (by simp) pts kept dat HDC.out).mono ?_; rw [← HRR.out]; rintro E w2 ⟨outv, rfl, p1⟩; have S2 := Aside0.mk p1; clear p1 S1)))
    clear HN HRR
    obtain ⟨out, o, a, e, bad⟩ := R
    cases bad with
    | true =>
      have h6 : errOf true = 6 := rfl
      have HP := Aside0.mk (show ∀ E w', E = .returned (.tuple #[outv, .int .i64 6]) → w' = w2 → SplitPost w (splitF lim b) E w' from fun E w' h1 h2 => by
        subst h1 h2
        rw [HSP.out, HSG.out, if_pos rfl]
        obtain ⟨ov, s⟩ := S2.out
        exact ⟨_, rfl, post_of s 3 rfl, s.below⟩)
      go_wp2
      go_ret2
      exact HP.out _ _ rfl rfl
    | false =>
      have h0 : errOf false = 0 := rfl
      have hs : splitF lim b = (out ++ fin (tk lim (rest1 kept dat) o a e), errOf (tk lim (rest1 kept dat) o a e).2.2.2.2) := by
        rw [HSP.out, HSG.out, if_neg (by simp), fin_cat]; rfl
      have hfl : (fin (tk lim (rest1 kept dat) o a e)).length ≤ 10 := by
        have h := (tk_open lim hlim1 (rest1 kept dat) o a e HOP.out.1 HOP.out.2.1 (rest_fine kept dat HDA.out.1 (by have := HDA.out; omega))).2.2.1
        have hr : (rest1 kept dat).length ≤ 1 := by unfold rest1; split <;> simp
        unfold fin
        split
        · omega
        · split
          · omega
          · rw [List.length_append, List.length_singleton]; omega
      obtain ⟨R2, hR2⟩ : ∃ R2, R2 = tk lim (rest1 kept dat) o a e := ⟨_, rfl⟩
      rw [← hR2] at hs hfl
      have HS2 := Aside0.mk hs
      have HR2 := Aside0.mk hR2
      have hol : out.length ≤ 10000000 := Nat.le_trans HOP.out.2.2.1 hpl
      clear hs hR2 HSP HSG
      go_upto_region 8 with (first | (go_at_call 20; go_must (refine (CloseOk w hG w2 g gd lim kept dat o a e [rowT kG TG w.heap.size outv out] S2.out (by omega) HDA.out hlim1 hlim2 HOP.out.1 HOP.out.2.1).mono ?_; rw [← HR2.out]; rintro E w3 ⟨outv2, rfl, p1⟩; have S3 := Aside0.mk p1; clear p1)))
      clear HR2 S2
      obtain ⟨ov, hS⟩ := S3.out
      obtain ⟨ok1, hR1, hf1, hN1⟩ := Sep.row (d := kG) (e := TG) (base := w.heap.size) (v := outv) (xs := out) hS 3 rfl
      obtain ⟨A2, c2, rfl, hc2, hC2⟩ := Sep.reads (d := kG) (e := TG) (base := w.heap.size) (v := outv2) (xs := fin R2) hS 4 rfl
      have HB3 := Aside0.mk hS.below
      have HR1 := Aside0.mk hR1
      have HF1 := Aside0.mk hf1
      have HN1 := Aside0.mk hN1
      have HC2 := Aside0.mk hC2
      clear hS hR1 hf1 hN1 hC2 hc2 S3
      go_wp2_with (first | (at_builtin; go_must (refine Kd.R_append_rows kG (Rr := kG.K w3) (w0 := w) w.heap.size rfl (.tmp 33) (.tmp 34) 29 TG (.agg #[.string ⟨#[]⟩, .int .i64 0, .int .i64 0]) 32 rfl Tryd.underlying29 info67 rfl (by decide) (by decide) outv out (fin R2) A2 (fin R2).length c2 ok1 (fun _ => False) rfl rfl HR1.out HC2.out (fun x cs h => kG_KM x cs h) (fun _ h => h.elim) HF1.out HB3.out HB3.out.size (by omega) ?hh)))
      case hh =>
        intro v1 w4 ho hb hg hat
        have hs := HN1.out v1 w4 _ ho hg
        have HP := Aside0.mk (show ∀ E w', E = .returned (.tuple #[v1, .int .i64 (errOf R2.2.2.2.2)]) → w' = w4 → SplitPost w (splitF lim b) E w' from fun E w' h1 h2 => by
          subst h1 h2
          rw [HS2.out]
          exact ⟨_, rfl, post_of hs 3 rfl, hs.below⟩)
        clear ho hb hg hat hs HN1 HR1 HF1 HC2
        go_wp2
        go_ret2
        exact HP.out _ _ rfl rfl
def textsF (b : List Int) : List ByteArray := (fin (segs (3 * (b.length : Int) + 3) b)).map (·.f0)
theorem sg_at {w : World} {A : Option Addr} {n : Nat} {l : List SG} (h : Kd.C kG w A n l) (j : Nat) (hj : j < n) (hjl : j < l.length) :
    ∃ ad, A = some ad ∧ w.cell? (ad.add (j * 3)) = some (.string l[j].f0) ∧ w.cell? ⟨(ad.add (j * 3)).block, (ad.add (j * 3)).off + 1, none⟩ = some (.int .i64 l[j].f1) ∧ w.cell? ⟨(ad.add (j * 3)).block, (ad.add (j * 3)).off + 2, none⟩ = some (.int .i64 l[j].f2) := by
  have := at_T67 h (j : Int) (by omega) (by omega)
  have e : rd_T67 l (j : Int) = l[j] := by unfold rd_T67; simp [List.getD_eq_getElem?_getD, List.getElem?_eq_getElem hjl]
  rw [Int.toNat_natCast, e] at this
  exact this
def TextsPost (w : World) (r : List ByteArray) (E : Ending) (w' : World) : Prop := ∃ v, E = .returned v ∧ Kd.string.R 9 w' w.heap.size (fun _ => True) v r ∧ Below w.heap.size w w'
set_option maxRecDepth 100000 in
set_option maxHeartbeats 8000000 in
theorem TextsP (w : World) (hG : G w) (A : Option Addr) (n c : Nat) (b : List Int) (hC : KB.C w A n b) (hn : n = b.length) (hB : Bytes b) (hl : n ≤ 13000000) :
    Calls Tryd.prog 41 #[.slice A n c] w (TextsPost w (textsF b)) := by
  obtain ⟨lim, hlim⟩ : ∃ lim : Int, lim = 3 * (n : Int) + 3 := ⟨_, rfl⟩
  have hdl := Ux.dc_len b 0
  have hdr := Ux.dc_rest b 0
  have hff := dec_fine b.length b 0 hB (Int.le_refl _) (by omega)
  rw [show dec b.length b 0 = dc b 0 from rfl] at hff
  obtain ⟨pts, hpts⟩ : ∃ pts, pts = (dc b 0).1 := ⟨_, rfl⟩
  obtain ⟨kept, hkept⟩ : ∃ kept, kept = (dc b 0).2.1 := ⟨_, rfl⟩
  obtain ⟨dat, hdat⟩ : ∃ dat, dat = (dc b 0).2.2 := ⟨_, rfl⟩
  have hdc : dc ([] ++ b) 0 = (pts, kept, dat) := by rw [List.nil_append, hpts, hkept, hdat]
  have hfull : full b = pts ++ rest1 kept dat := by rw [hpts, hkept, hdat]; rfl
  rw [← hpts] at hff
  rw [← hpts, ← hkept, ← hdat] at hdl
  rw [← hkept] at hdr
  obtain ⟨R, hR⟩ : ∃ R, R = tk lim pts [] 0 0 := ⟨_, rfl⟩
  have hop := tk_open lim (by omega) pts [] 0 0 (by simp; omega) (by simp) hff
  have hnb := tk_nobad lim pts [] 0 0 hff (by simp; omega)
  rw [← hR] at hop hnb
  have hrf := rest_fine kept dat (show 0 ≤ dat by omega) (by omega)
  have hrl : (rest1 kept dat).length ≤ 1 := by unfold rest1; split <;> simp
  have hnb2 : (segs lim b).2.2.2.2 = false := by
    unfold segs
    have hr0 : (rest1 kept dat).length = 0 ∨ kept ≠ [] := by
      unfold rest1; split
      · exact .inl rfl
      · rename_i h; exact .inr h
    refine tk_nobad lim (full b) [] 0 0 ?_ ?_
    · intro x hx; rw [hfull] at hx; exact (List.mem_append.1 hx).elim (hff x) (hrf x)
    · rw [hfull, List.length_append]
      simp only [List.length_nil]
      rcases hr0 with h | h
      · omega
      · have := List.length_pos_iff.2 h; omega
  have hseg : segs lim b = catT R.1 (tk lim (rest1 kept dat) R.2.1 R.2.2.1 R.2.2.2.1) := by
    unfold segs
    rw [hfull, tk_app, ← hR, if_neg (by rw [hnb]; decide)]
  obtain ⟨out, o, a, e, bad⟩ := R
  obtain rfl : bad = false := hnb
  obtain ⟨R2, hR2⟩ : ∃ R2, R2 = tk lim (rest1 kept dat) o a e := ⟨_, rfl⟩
  simp only at hseg hop
  rw [← hR2] at hseg
  have hb2 : R2.2.2.2.2 = false := by rw [hseg] at hnb2; exact hnb2
  obtain ⟨out2, o2, a2, e2, bad2⟩ := R2
  obtain rfl : bad2 = false := hb2
  have hfin : fin (segs lim b) = out ++ fin (out2, o2, a2, e2, false) := by rw [hseg, fin_cat]
  have hop2 := tk_open lim (by omega) (rest1 kept dat) o a e hop.1 hop.2.1 hrf
  rw [← hR2] at hop2
  obtain ⟨f2, hf2⟩ : ∃ f2, f2 = fin (out2, o2, a2, e2, false) := ⟨_, rfl⟩
  rw [← hf2] at hfin
  have hfl : f2.length ≤ 10 := by
    rw [hf2]
    have h := hop2.2.2.1
    simp only at h
    unfold fin
    simp only [Bool.false_eq_true, if_false]
    split
    · omega
    · rw [List.length_append, List.length_singleton]; omega
  have htx : textsF b = (out ++ f2).map (·.f0) := by unfold textsF; rw [← hn, ← hlim, hfin]
  have HTX := Aside0.mk htx
  have HDC := Aside0.mk hdc
  have HRR := Aside0.mk hR
  have HR2 := Aside0.mk hR2
  have HF2 := Aside0.mk hf2
  have HC := Aside0.mk hC
  have HB := Aside0.mk hB
  have HOP := Aside0.mk hop
  have HLIM := Aside0.mk hlim
  have hlim1 : 0 ≤ lim := by omega
  have hlim2 : lim ≤ 50000000 := by omega
  have hkl : kept.length ≤ 3 := hdr.1
  have HDA := Aside0.mk (show 0 ≤ dat ∧ dat ≤ 1000000000000 by omega)
  have hol : out.length ≤ 13000000 := Nat.le_trans hop.2.2.1 (by omega)
  have HS0 := Aside0.mk (Dc.NewS (Sep.nil w))
  clear hC hn hB hdl hdr hff hpts hkept hdat hdc hfull hR hop hseg hrf hrl hnb2 hR2 hfin hop2 htx hlim hf2
  go_enter Tryd.func41, Tryd.ntmps41
  go_upto_region 2 with (first | (go_at_call 42; go_must (refine HS0.out.mono ?_; rintro E w1 ⟨gd, rfl, p1⟩; have S1 := Aside0.mk p1; clear p1)))
  rw [← HLIM.out]
  have S2 := Aside0.mk (show Seg w w1.heap.size gd lim [] 0 false [] 0 0 false 0 [] (w1.alloc (.cells (segCells gd lim (.slice none 0 0) 0 0 false 0) TS)) from
    ⟨.slice none 0 0, ((S1.out.blk_new (segCells gd lim (.slice none 0 0) 0 0 false 0) TS).empty K3 T3 w.heap.size).perm (seg3 _ _ _ _)⟩)
  obtain ⟨g, hg⟩ : ∃ g, g = w1.heap.size := ⟨_, rfl⟩
  rw [← hg] at S2 ⊢
  unfold segCells at S2
  generalize (w1.alloc (.cells #[.pointer (some ⟨gd, 0, none⟩), .int .i64 lim, .slice none 0 0, .int .i64 0, .int .i64 0, .bool false, .int .i64 0] TS)) = w2 at S2 ⊢
  clear S1 hg HS0 HLIM
  have h0 : errOf false = 0 := rfl
  have hob : ((0 : Nat) : Int) ≤ lim := by omega
  go_upto_region 5 with (first | (go_at_call 15; go_must (refine (WriteOk w hG w2 g gd lim [] 0 [] 0 0 [] S2.out A n c b (by obtain ⟨_, s⟩ := S2.out; exact Kd.C_below HC.out s.below) (by rw [List.nil_append]; exact HB.out) (by simp; omega) (by omega) hlim2 hob (by simp) pts kept dat HDC.out).mono ?_; rw [← HRR.out]; rintro E w3 ⟨outv, rfl, p1⟩; have S3 := Aside0.mk p1; clear p1 S2)) | (go_at_call 20; go_must (refine (CloseOk w hG w3 g gd lim kept dat o a e [rowT kG TG w.heap.size outv out] S3.out (by omega) HDA.out hlim1 hlim2 HOP.out.1 HOP.out.2.1).mono ?_; rw [← HR2.out]; rintro E w4 ⟨outv2, rfl, p1⟩; rw [← HF2.out] at p1; have S4 := Aside0.mk p1; clear p1 S3)))
  obtain ⟨ov, hS⟩ := S4.out
  obtain ⟨ok1, hR1, hf1, hN1⟩ := Sep.row (d := kG) (e := TG) (base := w.heap.size) (v := outv) (xs := out) hS 3 rfl
  obtain ⟨A2, c2, rfl, hc2, hC2⟩ := Sep.reads (d := kG) (e := TG) (base := w.heap.size) (v := outv2) (xs := f2) hS 4 rfl
  have HB3 := Aside0.mk hS.below
  have HR1 := Aside0.mk hR1
  have HF1 := Aside0.mk hf1
  have HN1 := Aside0.mk hN1
  have HC2 := Aside0.mk hC2
  clear hS hR1 hf1 hN1 hC2 hc2 S4 HRR HR2 HF2 HDC HOP HDA h0 hob
  go_wp2_with (first | (at_builtin; go_must (refine Kd.R_append_rows kG (Rr := kG.K w4) (w0 := w) w.heap.size rfl (.tmp 29) (.tmp 30) 29 TG (.agg #[.string ⟨#[]⟩, .int .i64 0, .int .i64 0]) 32 rfl Tryd.underlying29 info67 rfl (by decide) (by decide) outv out f2 A2 f2.length c2 ok1 (fun _ => False) rfl rfl HR1.out HC2.out (fun x cs h => kG_KM x cs h) (fun _ h => h.elim) HF1.out HB3.out HB3.out.size (by omega) ?hh)))
  case hh =>
    intro v5 w5 ho hb hg hat
    obtain ⟨all, hall⟩ : ∃ all, all = out ++ f2 := ⟨_, rfl⟩
    have hs := HN1.out v5 w5 _ ho hg
    rw [← hall] at hs
    obtain ⟨A5, c5, rfl, hc5, -⟩ := Sep.reads (d := kG) (e := TG) (base := w.heap.size) (v := v5) (xs := all) hs 3 rfl
    obtain ⟨m, hm⟩ : ∃ m, m = all.length := ⟨_, rfl⟩
    rw [← hm] at hs ⊢
    have S5 := Aside0.mk ((Sep.pickL (L' := [rowT kG TG w.heap.size (.slice A5 m c5) all]) hs [3] (by decide) rfl).empty Kd.string 9 w.heap.size)
    have HM := Aside0.mk hm
    have hml : m ≤ 20000000 := by rw [hm, hall, List.length_append]; omega
    rw [← hall] at HTX
    clear ho hb hg hat hs hc5 hm hall HN1 HR1 HF1 HC2 HB3
    go_wp2
    go_loopw [8, 33] (fun v8 v33 wr => ∃ i : Nat, v33 = .int .i64 i ∧ i ≤ m ∧ Aside0 (Sep w [rowT kG TG w.heap.size (.slice A5 m c5) all, rowT Kd.string 9 w.heap.size v8 ((all.take i).map (·.f0))] wr)) (fun _ v33 _ => m - (intOf v33).toNat)
    case atStart => exact ⟨0, rfl, Nat.zero_le _, S5⟩
    case round =>
      clear S5
      obtain ⟨i, rfl, hi, HS⟩ := hrel
      by_cases hlt : i < m
      · have hd : decide ((i : Int) < (m : Int)) = true := decide_eq_true (by omega)
        have hd2 : decide (i < m) = true := decide_eq_true hlt
        have hil : i < all.length := by have := HM.out; omega
        obtain ⟨ad, rfl, z0, z1, z2⟩ := sg_at (HS.out.rows 0 rfl).2.2 i hlt hil
        have hn0 : (0 : Int) ≤ (i : Int) := by omega
        have hn1 : (i : Int) < (m : Int) := by omega
        obtain ⟨x, hx⟩ : ∃ x, x = all[i] := ⟨_, rfl⟩
        rw [← hx] at z0 z1 z2
        have hts : (all.take (i + 1)).map (·.f0) = (all.take i).map (·.f0) ++ [x.f0] := by rw [List.take_succ_eq_append_getElem hil, ← hx, List.map_append]; rfl
        obtain ⟨ts, hts2⟩ : ∃ ts, ts = (all.take i).map (·.f0) := ⟨_, rfl⟩
        rw [← hts2] at HS hts
        have htl : ts.length ≤ m := by rw [hts2, List.length_map, List.length_take]; omega
        have HTS := Aside0.mk hts
        clear hx hts hts2
        go_upto_region 8 with (fail)
        have S6 := Aside0.mk (HS.out.blk_new #[.string x.f0, .int .i64 x.f1, .int .i64 x.f2] TG)
        obtain ⟨pb, hpb⟩ : ∃ pb, pb = wr.heap.size := ⟨_, rfl⟩
        rw [← hpb] at S6 ⊢
        generalize (wr.alloc (.cells #[.string x.f0, .int .i64 x.f1, .int .i64 x.f2] TG)) = w6 at S6 ⊢
        clear z0 z1 z2 hpb HS
        have z0 := blk_cell (S6.out.blk 2 rfl).1 0
        obtain ⟨ok1, hR1, hf1, hN1⟩ := Sep.row (d := Kd.string) (e := 9) (base := w.heap.size) (v := u8) (xs := ts) S6.out 1 rfl
        have HR1 := Aside0.mk hR1
        have HF1 := Aside0.mk hf1
        have HN1 := Aside0.mk hN1
        have HB3 := Aside0.mk S6.out.below
        clear hR1 hf1 hN1 S6
        go_wp2_with (first | (at_builtin; go_must (refine Kd.R_append Kd.string (w0 := w) w.heap.size rfl (.tmp 37) (.tmp 40) 64 9 (.string ⟨#[]⟩) 16 rfl Tryd.underlying64 info9 rfl (by decide) (by decide) u8 ts x.f0 [.string x.f0] ok1 (fun _ => False) rfl rfl ?aP (fun _ hk => hk.elim) ?aF ?aO ?aB ?aS ?aL ?aK; (case aP => exact rfl); (case aB => exact HB3.out); (case aF => exact HF1.out); (case aO => exact HR1.out); (case aS => exact HB3.out.size); (case aL => omega))))
        case aK =>
          intro v1 w7 ho hb hg hat
          have hs := HN1.out v1 w7 _ ho hg
          have S7 := Aside0.mk (show Sep w [rowT kG TG w.heap.size (.slice (some ad) m c5) all, rowT Kd.string 9 w.heap.size v1 ((all.take (i + 1)).map (·.f0))] w7 from by rw [HTS.out]; exact Sep.pickL hs [0, 1] (by decide) rfl)
          clear ho hb hg hat hs HR1 HF1 HN1 HB3
          go_wp2
          go_roundw
          case rel => exact ⟨i + 1, by go_num, by omega, S7⟩
          case measure => simp [intOf]; omega
      · have hd : decide ((i : Int) < (m : Int)) = false := decide_eq_false (by omega)
        have hd2 : decide (i < m) = false := decide_eq_false hlt
        go_wp2
        go_ret
        obtain ⟨ok, h1⟩ := HS.out.one 1 _ rfl
        rw [HTX.out]
        rw [List.take_of_length_le (by have := HM.out; omega)] at h1
        exact ⟨_, rfl, Kd.R_mono h1 (fun _ _ => trivial), HS.out.below⟩
end Go.Proofs.YthffpkdadffinaaDoor.Sgd
namespace Go.Proofs.YthffpkdadffinaaDoor.X
set_option linter.unusedVariables false
set_option linter.unusedSimpArgs false
open Go.RowKit Go.Proofs.YthffpkdadffinaaDoorW.PrintWords Go.Proofs.YthffpkdadffinaaDoorW.PrintLast Go.Proofs.YthffpkdadffinaaDoorW.PrintMore Go.Proofs.YthffpkdadffinaaDoor.Ux
def bytesB (l : List Int) : Bool := l.all fun x => decide (0 ≤ x) && decide (x ≤ 255)
theorem bytesB_of {l : List Int} (h : bytesB l = true) : Bytes l := fun x hx => by
  have := List.all_eq_true.1 h x hx
  simp only [Bool.and_eq_true, decide_eq_true_eq] at this
  exact this
theorem bytesB_mk {l : List Int} (h : Bytes l) : bytesB l = true := List.all_eq_true.2 fun x hx => by
  have := h x hx
  simp only [Bool.and_eq_true, decide_eq_true_eq]
  exact this
def seg_Split.f (l : List Int) (lim : Int) : Option (List S67 × Int) := if bytesB l = true ∧ l.length ≤ 10000000 then some (Sgd.splitF lim l) else none
theorem seg_Split.calls (A0 : Option Addr) (c0 : Nat) (l0 : List Int) (a1 : Int) (r1 : List S67) (r2 : Int) (w : World) (hr0 : Kd.C (Kd.int .u8) w A0 l0.length l0) (hc0 : l0.length ≤ c0) (h : seg_Split.f l0 a1 = some (r1, r2)) (hG0 : Va.G w) :
    Calls Tryd.prog 39 #[.slice A0 l0.length c0, .int .i64 a1] w fun e w' => ∃ v0_ : Value, e = .returned (.tuple #[v0_, .int .i64 r2]) ∧ Kd.R k67 67 w' w.heap.size (fun _ => True) v0_ r1 ∧ Below w.heap.size w w' := by
  unfold seg_Split.f at h
  split at h
  · rename_i hh
    have h := Option.some.inj h
    refine (Sgd.SplitP w hG0 A0 l0.length c0 l0 hr0 rfl (bytesB_of hh.1) (by omega) a1).mono ?_
    rintro e w' ⟨v, rfl, p1, p2⟩
    rw [h] at p1 ⊢
    exact ⟨v, rfl, p1, p2⟩
  · cases h
def seg_Texts.f (l : List Int) : Option (List ByteArray) := if bytesB l = true ∧ l.length ≤ 13000000 then some (Sgd.textsF l) else none
theorem seg_Texts.calls (A0 : Option Addr) (c0 : Nat) (l0 : List Int) (r : List ByteArray) (w : World) (hr0 : Kd.C (Kd.int .u8) w A0 l0.length l0) (hc0 : l0.length ≤ c0) (h : seg_Texts.f l0 = some r) (hG0 : Va.G w) :
    Calls Tryd.prog 41 #[.slice A0 l0.length c0] w fun e w' => ∃ v0_ : Value, e = .returned v0_ ∧ Kd.R Kd.string 9 w' w.heap.size (fun _ => True) v0_ r ∧ Below w.heap.size w w' := by
  unfold seg_Texts.f at h
  split at h
  · rename_i hh
    cases Option.some.inj h
    exact Sgd.TextsP w hG0 A0 l0.length c0 l0 hr0 rfl (bytesB_of hh.1) hh.2
  · cases h
end Go.Proofs.YthffpkdadffinaaDoor.X
namespace Go.Proofs.YthffpkdadffinaaDoor.Rt
set_option linter.unusedVariables false
set_option linter.unusedSimpArgs false
open Go.RowKit Go.Proofs.YthffpkdadffinaaDoorW.PrintWords Go.Proofs.YthffpkdadffinaaDoor.Hp Go.Proofs.YthffpkdadffinaaDoor.Ux Go.Proofs.YthffpkdadffinaaDoor.En Go.Proofs.YthffpkdadffinaaDoor.X
theorem one1_enc (f : Int) (hv : vld f = true) (s : List Int) : ∃ c t, encv f = c :: t ∧ one1 c (t ++ s) = (f, (((encv f).length : Nat) : Int), false) := by
  simp only [vld, decide_eq_true_eq] at hv
  unfold encv
  split
  · rename_i h1
    exact ⟨f, [], rfl, by simp [one1, bnd, st, h1, cont]⟩
  · split
    · rename_i h1 h2
      refine ⟨_, _, rfl, ?_⟩
      unfold one1 bnd st
      rw [if_neg (by omega), if_neg (by omega), if_pos (by omega), if_neg (by omega), if_pos (by omega)]
      simp only [List.cons_append, List.nil_append, cont]
      rw [if_neg (by omega)]
      simp only [List.length_cons, List.length_nil, Prod.mk.injEq]
      exact ⟨by omega, by omega, trivial⟩
    · split
      · rename_i h1 h2 h3
        refine ⟨_, _, rfl, ?_⟩
        unfold one1 bnd st
        rw [if_neg (show ¬ (224 + f / 4096 < 128) by omega), if_neg (show ¬ (224 + f / 4096 < 194 ∨ 244 < 224 + f / 4096) by omega), if_neg (show ¬ (224 + f / 4096 < 224) by omega), if_pos (show 224 + f / 4096 < 240 by omega), if_neg (show ¬ (224 + f / 4096 < 128) by omega), if_neg (show ¬ (224 + f / 4096 < 224) by omega), if_pos (show 224 + f / 4096 < 240 by omega)]
        simp only [List.cons_append, List.nil_append, cont]
        rw [if_neg (by split <;> split <;> omega), if_neg (by omega)]
        simp only [List.length_cons, List.length_nil, Prod.mk.injEq]
        exact ⟨by omega, by omega, trivial⟩
      · rename_i h1 h2 h3
        refine ⟨_, _, rfl, ?_⟩
        unfold one1 bnd st
        rw [if_neg (show ¬ (240 + f / 262144 < 128) by omega), if_neg (show ¬ (240 + f / 262144 < 194 ∨ 244 < 240 + f / 262144) by omega), if_neg (show ¬ (240 + f / 262144 < 224) by omega), if_neg (show ¬ 240 + f / 262144 < 240 by omega), if_neg (show ¬ (240 + f / 262144 < 128) by omega), if_neg (show ¬ (240 + f / 262144 < 224) by omega), if_neg (show ¬ 240 + f / 262144 < 240 by omega)]
        simp only [List.cons_append, List.nil_append, cont]
        rw [if_neg (by split <;> split <;> omega), if_neg (by omega), if_neg (by omega)]
        simp only [List.length_cons, List.length_nil, Prod.mk.injEq]
        exact ⟨by omega, by omega, trivial⟩
theorem dc_encv (f : Int) (hv : vld f = true) (s : List Int) (p : Int) : dc (encv f ++ s) p = ((⟨f, p, (encv f).length⟩ : S103) :: (dc s (p + (encv f).length)).1, (dc s (p + (encv f).length)).2) := by
  obtain ⟨c, t, h1, h2⟩ := one1_enc f hv s
  have hl : (encv f).length = t.length + 1 := by rw [h1]; rfl
  rw [h1, List.cons_append, dc_cons, h2]
  simp only [Bool.false_eq_true, if_false]
  have e : (c :: (t ++ s)).drop (((encv f).length : Nat) : Int).toNat = s := by rw [Int.toNat_natCast, hl]; simp
  rw [e, hl]
  simp
end Go.Proofs.YthffpkdadffinaaDoor.Rt
namespace Go.Proofs.YthffpkdadffinaaDoor.Bk
set_option linter.unusedVariables false
set_option linter.unusedSimpArgs false
open Go.RowKit Go.Proofs.YthffpkdadffinaaDoorW.PrintWords Go.Proofs.YthffpkdadffinaaDoor.Hp Go.Proofs.YthffpkdadffinaaDoor.Ux Go.Proofs.YthffpkdadffinaaDoor.En Go.Proofs.YthffpkdadffinaaDoor.Rt Go.Proofs.YthffpkdadffinaaDoor.X
def ful (b : List Int) (p : Int) : List S103 := (dc b p).1 ++ rest1 (dc b p).2.1 (dc b p).2.2
theorem ful_nil (p : Int) : ful [] p = [] := by simp [ful, dc_nil, rest1]
theorem ful_cons (c : Int) (t : List Int) (p : Int) : ful (c :: t) p = (⟨(one1 c t).1, p, (one1 c t).2.1⟩ : S103) :: ful ((c :: t).drop (one1 c t).2.1.toNat) (p + (one1 c t).2.1) := by
  cases h : (one1 c t).2.2 with
  | true =>
    have h3 := one1_more c t h
    have e : (c :: t).drop (one1 c t).2.1.toNat = [] := by rw [h3.2.1]; exact List.drop_eq_nil_of_le (by simp; omega)
    rw [e, ful_nil]
    unfold ful
    rw [dc_cons, if_pos h]
    simp [rest1, h3.1, h3.2.1]
    omega
  | false =>
    unfold ful
    rw [dc_cons, if_neg (by simp [h])]
    simp
theorem ful_enc1 (r : Int) (s : List Int) (p : Int) : ful (enc1 r ++ s) p = (⟨fixr r, p, (enc1 r).length⟩ : S103) :: ful s (p + (enc1 r).length) := by
  unfold ful enc1
  rw [dc_encv (fixr r) (fixr_ok r).2.2 s p]
  simp
theorem ful_enc : ∀ (l : List Int) (p : Int), (ful (enc l) p).map (·.f0) = l.map fixr
  | [], p => by simp [enc, ful_nil]
  | r :: l, p => by
    simp only [enc]
    rw [ful_enc1]
    simp [ful_enc l]
theorem str_inj {a b : List Int} (ha : Bytes a) (hb : Bytes b) (h : strOfNums a = strOfNums b) : a = b := by
  have h1 : a.map (fun n => UInt8.ofNat n.toNat) = b.map (fun n => UInt8.ofNat n.toNat) := by rw [← strOfNums_data, ← strOfNums_data, h]
  clear h
  induction a generalizing b with
  | nil => cases b with
    | nil => rfl
    | cons y b => simp at h1
  | cons x a ih =>
    cases b with
    | nil => simp at h1
    | cons y b =>
      simp only [List.map_cons] at h1
      injection h1 with h2 h3
      have hx := ha x List.mem_cons_self
      have hy := hb y List.mem_cons_self
      have h4 := congrArg UInt8.toNat h2
      simp only [UInt8.toNat_ofNat'] at h4
      have : x = y := by omega
      rw [this, ih (fun z hz => ha z (List.mem_cons_of_mem _ hz)) (fun z hz => hb z (List.mem_cons_of_mem _ hz)) h3]
end Go.Proofs.YthffpkdadffinaaDoor.Bk
namespace Go.Proofs.YthffpkdadffinaaDoor.Sgp
set_option linter.unusedVariables false
set_option linter.unusedSimpArgs false
open Go.Proofs.YthffpkdadffinaaDoor.Vd (decU)
open Go.Proofs.YthffpkdadffinaaDoor.Ve (opn)
open Go.Proofs.YthffpkdadffinaaDoor.Ux (Bytes one1 dc rest1 full dec)
open Go.Proofs.YthffpkdadffinaaDoor.En (enc fixr enc_byte)
open Go.RowKit Go.Proofs.YthffpkdadffinaaDoorW.PrintWords Go.Proofs.YthffpkdadffinaaDoor.Ev0 Go.Proofs.YthffpkdadffinaaDoor.X Go.Proofs.YthffpkdadffinaaDoor.Oa Go.Proofs.YthffpkdadffinaaDoor.Ob Go.Proofs.YthffpkdadffinaaDoor.Vp0 Go.Proofs.YthffpkdadffinaaDoor.Sga Go.Proofs.YthffpkdadffinaaDoor.Sgb Go.Proofs.YthffpkdadffinaaDoor.Sgc Go.Proofs.YthffpkdadffinaaDoor.Sgd
theorem flat_ne (l : List Int) (h : l ≠ []) : flat l ≠ [] := by
  cases l with
  | nil => exact absurd rfl h
  | cons x t =>
    rw [flat_cons]
    intro e
    exact Ve.decF_ne 4 x (List.append_eq_nil_iff.1 e).1
end Go.Proofs.YthffpkdadffinaaDoor.Sgp
namespace Go.Proofs.YthffpkdadffinaaDoor.Sgq
set_option linter.unusedVariables false
set_option linter.unusedSimpArgs false
open Go.Proofs.YthffpkdadffinaaDoor.Vd (decU)
open Go.Proofs.YthffpkdadffinaaDoor.Ve (opn)
open Go.Proofs.YthffpkdadffinaaDoor.Ux (Bytes one1 dc rest1 full dec)
open Go.Proofs.YthffpkdadffinaaDoor.En (enc fixr enc_byte)
open Go.RowKit Go.Proofs.YthffpkdadffinaaDoorW.PrintWords Go.Proofs.YthffpkdadffinaaDoor.Ev0 Go.Proofs.YthffpkdadffinaaDoor.X Go.Proofs.YthffpkdadffinaaDoor.Oa Go.Proofs.YthffpkdadffinaaDoor.Ob Go.Proofs.YthffpkdadffinaaDoor.Vp0 Go.Proofs.YthffpkdadffinaaDoor.Vu Go.Proofs.YthffpkdadffinaaDoor.Sga Go.Proofs.YthffpkdadffinaaDoor.Sgb Go.Proofs.YthffpkdadffinaaDoor.Sgc Go.Proofs.YthffpkdadffinaaDoor.Sgd Go.Proofs.YthffpkdadffinaaDoor.Sgp
theorem rdG {l : List SG} {i : Nat} (h : i < l.length) : rd_T67 l (i : Int) = l[i] := by unfold rd_T67; simp [List.getD_eq_getElem?_getD, List.getElem?_eq_getElem h]
end Go.Proofs.YthffpkdadffinaaDoor.Sgq
namespace Go.Proofs.YthffpkdadffinaaDoor.X
open Go.RowKit Go.Proofs.YthffpkdadffinaaDoorW.PrintWords Go.Proofs.YthffpkdadffinaaDoorW.PrintLast Go.Proofs.YthffpkdadffinaaDoorW.PrintMore
attribute [local go_sem] max2_int min2_int max_two min_two max_three min_three max_four min_four   
set_option linter.unusedVariables false
set_option linter.unusedSimpArgs false
def slices_Equal_string_string.l0 : Nat → List ByteArray → List ByteArray → Int → Int → Option (Bool)
 | 0, _, _, _, _ => none
 | k + 1, x0, x1, x12, x13 => if x13 < x12 then (if 0 ≤ x13 then (if x13 < (x0.length : Int) then (if x13 < (x1.length : Int) then (if (rdOf ByteArray.empty x0 x13).toList = (rdOf ByteArray.empty x1 x13).toList then (slices_Equal_string_string.l0 k x0 x1 x12 (wrap64 (x13 + 1))) else (some false)) else (none)) else (none)) else (none)) else (some true)
def slices_Equal_string_string.f (k : Nat) (l0 : List ByteArray) (l1 : List ByteArray) : Option (Bool) := if (l0.length : Int) = (l1.length : Int) then (slices_Equal_string_string.l0 k l0 l1 (l0.length : Int) 0) else (some false)
theorem slices_Equal_string_string.mono_l : ∀ k, (∀ y0 y1 y2 y3, LeO (slices_Equal_string_string.l0 k y0 y1 y2 y3) (slices_Equal_string_string.l0 (k + 1) y0 y1 y2 y3))
 | 0 => fun _ _ _ _ r h => by simp [slices_Equal_string_string.l0] at h
 | k + 1 => by
  have ih0 := slices_Equal_string_string.mono_l k
  ·intro y0 y1 y2 y3
   unfold slices_Equal_string_string.l0
   repeat' first
   | (with_reducible exact ih0 _ _ _ _)
   | (with_reducible exact LeO.refl _)
   | (with_reducible exact LeO.none _)
   | (with_reducible refine LeO.ite ?_ ?_)
   | (with_reducible refine LeO.bind ?_ (fun _ => ?_))
   | exact ih0 _ _ _ _
   | exact LeO.none _
   | refine LeO.ite ?_ ?_
   | refine LeO.bind ?_ (fun _ => ?_)
theorem slices_Equal_string_string.mono : ∀ a0 a1 k, LeO (slices_Equal_string_string.f k a0 a1) (slices_Equal_string_string.f (k + 1) a0 a1) := by
 intro a0 a1 k
 have ih0 := slices_Equal_string_string.mono_l k
 unfold slices_Equal_string_string.f
 repeat' first
   | (with_reducible exact ih0 _ _ _ _)
   | (with_reducible exact LeO.refl _)
   | (with_reducible exact LeO.none _)
   | (with_reducible refine LeO.ite ?_ ?_)
   | (with_reducible refine LeO.bind ?_ (fun _ => ?_))
   | exact ih0 _ _ _ _
   | exact LeO.none _
   | refine LeO.ite ?_ ?_
   | refine LeO.bind ?_ (fun _ => ?_)
set_option maxHeartbeats 8000000 in
set_option maxRecDepth 100000 in
theorem slices_Equal_string_string.calls (k : Nat) (A0 : Option Addr) (c0 : Nat) (l0 : List ByteArray) (A1 : Option Addr) (c1 : Nat) (l1 : List ByteArray) (r : Bool) (w : World) (hr0 : Kd.C Kd.string w A0 l0.length l0) (hc0 : l0.length ≤ c0) (hr1 : Kd.C Kd.string w A1 l1.length l1) (hc1 : l1.length ≤ c1) (h : slices_Equal_string_string.f k l0 l1 = some r) :
  Calls Tryd.prog 80 #[.slice A0 l0.length c0, .slice A1 l1.length c1] w fun e w' => e = .returned (.bool r) ∧ Drawn0 w w' := by
 have HR0 := Aside0.mk hr0
 have HC0 := Aside0.mk hc0
 clear hr0 hc0
 have HR1 := Aside0.mk hr1
 have HC1 := Aside0.mk hc1
 clear hr1 hc1
 have H : (if (l0.length : Int) = (l1.length : Int) then (slices_Equal_string_string.l0 k l0 l1 (l0.length : Int) 0) else (some false)) = some r := h
 clear h
 by_cases c3 : (l0.length : Int) = (l1.length : Int)
 ·rw [if_pos c3] at H
  have c3b0 : ((l0.length : Int) == (l1.length : Int)) = true := beq_iff_eq.mpr c3
  have c3b1 : ((l0.length : Int) != (l1.length : Int)) = false := bne_eq_false_iff_eq.mpr c3
  have c3b2 : (l0.length == l1.length) = true := by first | simpa using c3 | (simp at c3 ⊢; omega)
  clear c3
  have H' := Aside0.mk H
  clear H
  go_enter Tryd.func80, Tryd.ntmps80
  go_wp2
  repeat (go_quiet (fail); try go_wp2)
  go_loopg [13] k (fun kq v13 w' => ∃ (x13_1 : Int), v13 = .int .i64 x13_1 ∧ Aside0 (slices_Equal_string_string.l0 kq l0 l1 (l0.length : Int) x13_1 = some r) ∧ Aside0 (kq ≤ k) ∧ Drawn0 w w')
  case atStart => exact ⟨(0), (by first | rfl | (simp; done) | (simp [*]; done)), H', ⟨Nat.le_refl _⟩, by repeat (first | exact Drawn0.refl _ | apply Drawn0.step)⟩
  case round =>
   clear H'
   try clear c1
   try clear p2
   try clear c3
   try clear c3b0
   try clear c3b1
   try clear c3b2
   obtain ⟨x13_1, rfl, HA, HK1, ⟨m1, rfl⟩⟩ := hrel
   cases gk with
   | zero => exact absurd HA.out (by simp [slices_Equal_string_string.l0])
   | succ k1 =>
    have H := HA.out
    clear HA
    simp only [slices_Equal_string_string.l0] at H
    by_cases c4 : x13_1 < (l0.length : Int)
    ·rw [if_pos c4] at H
     have c4b0 : decide (x13_1 < (l0.length : Int)) = true := decide_eq_true c4
     clear c4
     by_cases c5 : 0 ≤ x13_1
     ·rw [if_pos c5] at H
      have c5b0 : decide (0 ≤ x13_1) = true := decide_eq_true c5
      clear c5
      by_cases c6 : x13_1 < (l0.length : Int)
      ·rw [if_pos c6] at H
       have c6b0 : decide (x13_1 < (l0.length : Int)) = true := decide_eq_true c6
       clear c6
       by_cases c7 : x13_1 < (l1.length : Int)
       ·rw [if_pos c7] at H
        have c7b0 : decide (x13_1 < (l1.length : Int)) = true := decide_eq_true c7
        clear c7
        by_cases c8 : (rdOf ByteArray.empty l0 x13_1).toList = (rdOf ByteArray.empty l1 x13_1).toList
        ·rw [if_pos c8] at H
         have c8b0 : ((rdOf ByteArray.empty l0 x13_1).toList == (rdOf ByteArray.empty l1 x13_1).toList) = true := beq_iff_eq.mpr c8
         have c8b1 : ((rdOf ByteArray.empty l0 x13_1).toList != (rdOf ByteArray.empty l1 x13_1).toList) = false := bne_eq_false_iff_eq.mpr c8
         clear c8
         have H' := Aside0.mk H
         clear H
         have p233 : 0 ≤ (x13_1 : Int) := of_decide_eq_true (by first | (with_reducible assumption) | assumption)
         have q233 : x13_1 < (l0.length : Int) := of_decide_eq_true (by first | (with_reducible assumption) | assumption)
         obtain ⟨ad233, e233, hx233_0⟩ := Kd.at_string HR0.out x13_1 p233 q233
         cases e233
         replace p233 := eq_true p233
         replace q233 := eq_true q233
         have p234 : 0 ≤ (x13_1 : Int) := of_decide_eq_true (by first | (with_reducible assumption) | assumption)
         have q234 : x13_1 < (l1.length : Int) := of_decide_eq_true (by first | (with_reducible assumption) | assumption)
         obtain ⟨ad234, e234, hx234_0⟩ := Kd.at_string HR1.out x13_1 p234 q234
         cases e234
         replace p234 := eq_true p234
         replace q234 := eq_true q234
         go_wp2
         repeat (go_quiet (fail); try go_wp2)
         go_roundg k1
         case measure => have := HK1.out; omega
         case rel => exact ⟨(wrap64 (x13_1 + 1)), (by first | rfl | (simp; done) | (simp [*]; done)), H', ⟨by have := HK1.out; omega⟩, by repeat (first | exact Drawn0.refl _ | apply Drawn0.step)⟩
        ·rw [if_neg c8] at H
         have c8b0 : ((rdOf ByteArray.empty l0 x13_1).toList == (rdOf ByteArray.empty l1 x13_1).toList) = false := beq_eq_false_iff_ne.mpr c8
         have c8b1 : ((rdOf ByteArray.empty l0 x13_1).toList != (rdOf ByteArray.empty l1 x13_1).toList) = true := bne_iff_ne.mpr c8
         obtain rfl := Option.some.inj H
         have p233 : 0 ≤ (x13_1 : Int) := of_decide_eq_true (by first | (with_reducible assumption) | assumption)
         have q233 : x13_1 < (l0.length : Int) := of_decide_eq_true (by first | (with_reducible assumption) | assumption)
         obtain ⟨ad233, e233, hx233_0⟩ := Kd.at_string HR0.out x13_1 p233 q233
         cases e233
         replace p233 := eq_true p233
         replace q233 := eq_true q233
         have p234 : 0 ≤ (x13_1 : Int) := of_decide_eq_true (by first | (with_reducible assumption) | assumption)
         have q234 : x13_1 < (l1.length : Int) := of_decide_eq_true (by first | (with_reducible assumption) | assumption)
         obtain ⟨ad234, e234, hx234_0⟩ := Kd.at_string HR1.out x13_1 p234 q234
         cases e234
         replace p234 := eq_true p234
         replace q234 := eq_true q234
         go_wp2
         repeat (go_quiet (fail); try go_wp2)
         go_ret
         exact ⟨by first | rfl | (simp; done) | (simp [*]; done), by repeat (first | exact Drawn0.refl _ | apply Drawn0.step)⟩
       ·rw [if_neg c7] at H
        exact absurd H (by simp)
      ·rw [if_neg c6] at H
       exact absurd H (by simp)
     ·rw [if_neg c5] at H
      exact absurd H (by simp)
    ·rw [if_neg c4] at H
     have c4b0 : decide (x13_1 < (l0.length : Int)) = false := decide_eq_false c4
     clear c4
     obtain rfl := Option.some.inj H
     go_wp2
     repeat (go_quiet (fail); try go_wp2)
     go_ret
     exact ⟨by first | rfl | (simp; done) | (simp [*]; done), by repeat (first | exact Drawn0.refl _ | apply Drawn0.step)⟩
 ·rw [if_neg c3] at H
  have c3b0 : ((l0.length : Int) == (l1.length : Int)) = false := beq_eq_false_iff_ne.mpr c3
  have c3b1 : ((l0.length : Int) != (l1.length : Int)) = true := bne_iff_ne.mpr c3
  have c3b2 : (l0.length == l1.length) = false := by first | simpa using c3 | (simp at c3 ⊢; omega)
  obtain rfl := Option.some.inj H
  go_enter Tryd.func80, Tryd.ntmps80
  go_wp2
  repeat (go_quiet (fail); try go_wp2)
  go_ret
  exact ⟨by first | rfl | (simp; done) | (simp [*]; done), by repeat (first | exact Drawn0.refl _ | apply Drawn0.step)⟩
end Go.Proofs.YthffpkdadffinaaDoor.X
namespace Go.Proofs.YthffpkdadffinaaDoor.X
open Go.RowKit Go.Proofs.YthffpkdadffinaaDoorW.PrintWords Go.Proofs.YthffpkdadffinaaDoorW.PrintLast Go.Proofs.YthffpkdadffinaaDoorW.PrintMore
attribute [local go_sem] max2_int min2_int max_two min_two max_three min_three max_four min_four   
set_option linter.unusedVariables false
set_option linter.unusedSimpArgs false
def seg_Same.f (k : Nat) (l0 : List Int) (l1 : List Int) : Option (Bool) := (seg_Texts.f l0).bind fun t235 => ((seg_Texts.f l1).bind fun t238 => ((slices_Equal_string_string.f k t235 t238).bind fun t241 => (some t241)))
theorem seg_Same.mono : ∀ a0 a1 k, LeO (seg_Same.f k a0 a1) (seg_Same.f (k + 1) a0 a1) := by
 intro a0 a1 k
 unfold seg_Same.f
 repeat' first
   | (with_reducible exact slices_Equal_string_string.mono _ _ _)
   | (with_reducible exact LeO.refl _)
   | (with_reducible exact LeO.none _)
   | (with_reducible refine LeO.ite ?_ ?_)
   | (with_reducible refine LeO.bind ?_ (fun _ => ?_))
   | exact slices_Equal_string_string.mono _ _ _
   | exact LeO.none _
   | refine LeO.ite ?_ ?_
   | refine LeO.bind ?_ (fun _ => ?_)
set_option maxHeartbeats 8000000 in
set_option maxRecDepth 100000 in
theorem seg_Same.calls (k : Nat) (A0 : Option Addr) (c0 : Nat) (l0 : List Int) (A1 : Option Addr) (c1 : Nat) (l1 : List Int) (r : Bool) (w : World) (hr0 : Kd.C (Kd.int .u8) w A0 l0.length l0) (hc0 : l0.length ≤ c0) (hr1 : Kd.C (Kd.int .u8) w A1 l1.length l1) (hc1 : l1.length ≤ c1) (h : seg_Same.f k l0 l1 = some r) (hG0 : Va.G w) :
  Calls Tryd.prog 40 #[.slice A0 l0.length c0, .slice A1 l1.length c1] w fun e w' => e = .returned (.bool r) ∧ Below w.heap.size w w' := by
 have HG := Aside0.mk hG0
 clear hG0
 have HR0 := Aside0.mk hr0
 have HC0 := Aside0.mk hc0
 clear hr0 hc0
 have HR1 := Aside0.mk hr1
 have HC1 := Aside0.mk hc1
 clear hr1 hc1
 have HB := Aside0.mk (Below.refl w.heap.size w)
 have H : ((seg_Texts.f l0).bind fun t235 => ((seg_Texts.f l1).bind fun t238 => ((slices_Equal_string_string.f k t235 t238).bind fun t241 => (some t241)))) = some r := h
 clear h
 replace H := Option.bind_eq_some_iff.mp H
 obtain ⟨t235, A30, H⟩ := H
 replace H : ((seg_Texts.f l1).bind fun t238 => ((slices_Equal_string_string.f k t235 t238).bind fun t241 => (some t241))) = some r := H
 have A3 := Aside0.mk A30
 clear A30
 replace H := Option.bind_eq_some_iff.mp H
 obtain ⟨t238, A40, H⟩ := H
 replace H : ((slices_Equal_string_string.f k t235 t238).bind fun t241 => (some t241)) = some r := H
 have A4 := Aside0.mk A40
 clear A40
 replace H := Option.bind_eq_some_iff.mp H
 obtain ⟨t241, A50, H⟩ := H
 replace H : (some t241) = some r := H
 have A5 := Aside0.mk A50
 clear A50
 obtain rfl := Option.some.inj H
 go_enter Tryd.func40, Tryd.ntmps40
 go_wp2_with (first | ((with_reducible refine gate_callee (f := 41) rfl ?_); refine goesL_ (some 6) rfl rfl Tryd.func41 (by kernel_rfl) rfl #[.slice A0 l0.length c0] rfl (by (try simp only [List.map_toArray, List.map_cons, List.map_nil]); first | done | rfl | (simp only [List.length_drop, List.length_take]; rfl)) ?_; (with_reducible refine (seg_Texts.calls _ _ l0 t235 _ ?side1 ?side2 A3.out (by first | exact HG.out | exact Va.G.below HG.out (by repeat (first | (with_reducible first | exact HB.out | apply below_alloc | apply pw_below_drewN | apply below_drew1) | exact HB.out)))).mono ?_); (case side1 => repeat (first | exact HR0.out | (with_reducible refine Kd.C_alloc ?_ _) | (with_reducible refine Kd.C_drewN ?_ _) | (with_reducible refine Kd.C_drew ?_))); (case side2 => exact HC0.out); rintro e w6 ⟨v236, rfl, ho0, hb⟩; refine ⟨_, rfl, ?_⟩; have n0_ := Aside0.mk (Kd.R_lower ho0 (below_size (by repeat (first | (with_reducible first | exact HB.out | apply below_alloc | apply pw_below_drewN | apply below_drew1) | exact HB.out)))); have n1_ := Aside0.mk (below_step (by repeat (first | (with_reducible first | exact HB.out | apply below_alloc | apply pw_below_drewN | apply below_drew1) | exact HB.out)) hb); clear HB; have HO237 := n0_; have HB := n1_; clear n0_ n1_; (try clear hb); (try clear hb2); (try clear hk); (try clear hi); (try clear ho0)) | ((with_reducible refine gate_callee (f := 41) rfl ?_); refine goesL_ (some 8) rfl rfl Tryd.func41 (by kernel_rfl) rfl #[.slice A1 l1.length c1] rfl (by (try simp only [List.map_toArray, List.map_cons, List.map_nil]); first | done | rfl | (simp only [List.length_drop, List.length_take]; rfl)) ?_; (with_reducible refine (seg_Texts.calls _ _ l1 t238 _ ?side1 ?side2 A4.out (by first | exact HG.out | exact Va.G.below HG.out (by repeat (first | (with_reducible first | exact HB.out | apply below_alloc | apply pw_below_drewN | apply below_drew1) | exact HB.out)))).mono ?_); (case side1 => repeat (first | exact (Kd.C_below HR1.out HB.out) | (with_reducible refine Kd.C_alloc ?_ _) | (with_reducible refine Kd.C_drewN ?_ _) | (with_reducible refine Kd.C_drew ?_))); (case side2 => exact HC1.out); rintro e w7 ⟨v239, rfl, ho0, hb⟩; refine ⟨_, rfl, ?_⟩; have n0_ := Aside0.mk (Kd.R_elder' (by (with_reducible repeat (first | apply Kd.R_alloc | apply Kd.R_drewN | apply Kd.R_drew)); exact HO237.out) (Kd.R_base ho0) hb); have n1_ := Aside0.mk (Kd.R_lower (Kd.R_new' ho0 (Kd.R_lt (by (with_reducible repeat (first | apply Kd.R_alloc | apply Kd.R_drewN | apply Kd.R_drew)); exact HO237.out))) (below_size (by repeat (first | (with_reducible first | exact HB.out | apply below_alloc | apply pw_below_drewN | apply below_drew1) | exact HB.out)))); have n2_ := Aside0.mk (below_step (by repeat (first | (with_reducible first | exact HB.out | apply below_alloc | apply pw_below_drewN | apply below_drew1) | exact HB.out)) hb); clear HO237; clear HB; have HO237 := n0_; have HO240 := n1_; have HB := n2_; clear n0_ n1_ n2_; (try clear hb); (try clear hb2); (try clear hk); (try clear hi); (try clear ho0); obtain ⟨Ao8, co8, eo8⟩ := Kd.R_slice HO237.out; subst eo8; obtain ⟨Ao9, co9, eo9⟩ := Kd.R_slice HO240.out; subst eo9) | ((with_reducible refine gate_callee (f := 80) rfl ?_); refine goesL_ (some 9) rfl rfl Tryd.func80 (by kernel_rfl) rfl #[.slice Ao8 t235.length co8, .slice Ao9 t238.length co9] rfl (by (try simp only [List.map_toArray, List.map_cons, List.map_nil]); first | done | rfl | (simp only [List.length_drop, List.length_take]; rfl)) ?_; (with_reducible refine (slices_Equal_string_string.calls k _ _ t235 _ _ t238 t241 _ ?side1 ?side2 ?side3 ?side4 A5.out).mono ?_); (case side1 => repeat (first | exact (Kd.R_reads' HO237.out).2.2 | (with_reducible refine Kd.C_alloc ?_ _) | (with_reducible refine Kd.C_drewN ?_ _) | (with_reducible refine Kd.C_drew ?_))); (case side2 => exact (Kd.R_reads' HO237.out).2.1); (case side3 => repeat (first | exact (Kd.R_reads' HO240.out).2.2 | (with_reducible refine Kd.C_alloc ?_ _) | (with_reducible refine Kd.C_drewN ?_ _) | (with_reducible refine Kd.C_drew ?_))); (case side4 => exact (Kd.R_reads' HO240.out).2.1); rintro e w' ⟨rfl, ⟨nd, rfl⟩⟩; refine ⟨_, rfl, ?_⟩))
 go_ret
 exact ⟨by first | rfl | (simp [errW_none, errW_some] <;> rfl) | (simp [*, errW_none, errW_some] <;> rfl), by repeat (first | (with_reducible first | exact HB.out | apply below_alloc | apply pw_below_drewN | apply below_drew1) | exact HB.out)⟩
end Go.Proofs.YthffpkdadffinaaDoor.X
namespace Go.Proofs.YthffpkdadffinaaDoor.Sgf
set_option linter.unusedVariables false
set_option linter.unusedSimpArgs false
open Go.Proofs.YthffpkdadffinaaDoor.Fr (K3 T3)
open Go.Proofs.YthffpkdadffinaaDoor.Ux (Bytes one1 dc rest1 full dec)
open Go.Proofs.YthffpkdadffinaaDoor.Dc (decT)
open Go.RowKit Go.Proofs.YthffpkdadffinaaDoorW.PrintWords Go.Proofs.YthffpkdadffinaaDoor.Hp Go.Proofs.YthffpkdadffinaaDoor.Fm Go.Proofs.YthffpkdadffinaaDoor.X Go.Proofs.YthffpkdadffinaaDoor.Va Go.Proofs.YthffpkdadffinaaDoor.Oa Go.Proofs.YthffpkdadffinaaDoor.Vp0 Go.Proofs.YthffpkdadffinaaDoor.Cn Go.Proofs.YthffpkdadffinaaDoor.Sga Go.Proofs.YthffpkdadffinaaDoor.Sgb Go.Proofs.YthffpkdadffinaaDoor.Sgc Go.Proofs.YthffpkdadffinaaDoor.Sgd
section
variable {w0 w w' : World} {L M : List Th}
theorem litB (W : World) (cs : Array Value) (fr : Nat × Nat) (xs : List Int) (hc : cs.toList = nums .u8 xs) (hm : xs.length ≤ 9223372036854775807) : KB.C (W.alloc (.cells cs 5 fr)) (some ⟨W.heap.size, 0, none⟩) xs.length xs :=
  rdC (lit_reads (k := .u8) (heap_alloc_new W _) hc hm)
end
theorem conv2 (W : World) (o : Obj) (C : Array Value) (n c : Nat) : (convert 23 23 (.slice (some ⟨W.heap.size + 1, 0, none⟩) n c)).run Tryd.prog ((W.alloc o).alloc (.cells C 5)) = .ok (.slice (some ⟨W.heap.size + 1, 0, none⟩) n c) ((W.alloc o).alloc (.cells C 5 (C.size, C.size + 1))) := by
  have := Lib.run_convert_bytes_const (P := Tryd.prog) (W.alloc o) 23 5 C n c Tryd.underlying23 Tryd.underlying5
  rw [World.size_alloc] at this
  exact this
theorem sameC (W : World) (hG : G W) : Calls Tryd.prog 40 #[.slice (some ⟨W.heap.size, 0, none⟩) 2 2, .slice (some ⟨W.heap.size + 1, 0, none⟩) 3 3] ((W.alloc (.cells #[.int .u8 195, .int .u8 169] 5 (2, 3))).alloc (.cells #[.int .u8 101, .int .u8 204, .int .u8 129] 5 (3, 4))) fun e w' => e = .returned (.bool true) ∧ Below W.heap.size W w' := by
  have b1 := below_alloc (Below.refl W.heap.size W) (.cells #[.int .u8 195, .int .u8 169] 5 (2, 3))
  have b2 := below_alloc (Below.refl _ (W.alloc (.cells #[.int .u8 195, .int .u8 169] 5 (2, 3)))) (.cells #[.int .u8 101, .int .u8 204, .int .u8 129] 5 (3, 4))
  have b12 := below_then b1 b1.size b2
  have h2 := litB (W.alloc (.cells #[.int .u8 195, .int .u8 169] 5 (2, 3))) #[.int .u8 101, .int .u8 204, .int .u8 129] (3, 4) [101, 204, 129] rfl (by simp)
  rw [World.size_alloc] at h2
  refine (seg_Same.calls 40 _ 2 [195, 169] _ 3 [101, 204, 129] true _ (Kd.C_below (litB W #[.int .u8 195, .int .u8 169] (2, 3) [195, 169] rfl (by simp)) b2) (Nat.le_refl _) h2 (Nat.le_refl _) (by kernel_rfl) (hG.below b12)).mono fun e w' ⟨h1, h3⟩ => ⟨h1, ?_⟩
  exact below_then b12 b12.size h3
def g1 : SG := ⟨⟨#[101, 204, 129]⟩, 0, 3⟩
def g2 : SG := ⟨⟨#[120]⟩, 3, 4⟩
def g3 : SG := ⟨⟨#[120]⟩, 0, 1⟩
theorem d1 : dc ([] ++ [101]) 0 = ([⟨101, 0, 1⟩], [], 1) := by kernel_rfl
theorem t1 : tk 8 [⟨101, 0, 1⟩] [] 0 0 = ([], [101], 0, 1, false) := by kernel_rfl
theorem d2 : dc ([] ++ [204]) 1 = ([], [204], 1) := by kernel_rfl
theorem t2 : tk 8 [] [101] 0 1 = ([], [101], 0, 1, false) := rfl
theorem d3 : dc ([204] ++ [129, 120]) 1 = ([⟨769, 1, 2⟩, ⟨120, 3, 1⟩], [], 4) := by kernel_rfl
theorem t3 : tk 8 [⟨769, 1, 2⟩, ⟨120, 3, 1⟩] [101] 0 1 = ([g1], [120], 3, 4, false) := by kernel_rfl
theorem t4 : tk 8 (rest1 [] 4) [120] 3 4 = ([], [120], 3, 4, false) := rfl
theorem f4 : fin ([], [120], 3, 4, false) = [g2] := by kernel_rfl
end Go.Proofs.YthffpkdadffinaaDoor.Sgf
namespace Go.Proofs.YthffpkdadffinaaDoor.X
set_option linter.unusedVariables false
set_option linter.unusedSimpArgs false
open Go.RowKit Go.Proofs.YthffpkdadffinaaDoorW.PrintWords
end Go.Proofs.YthffpkdadffinaaDoor.X
namespace Go.Proofs.YthffpkdadffinaaDoor.Sgr
set_option linter.unusedVariables false
set_option linter.unusedSimpArgs false
open Go.Proofs.YthffpkdadffinaaDoor.Ux (Bytes one1 dc rest1 full dec)
open Go.RowKit Go.Proofs.YthffpkdadffinaaDoorW.PrintWords Go.Proofs.YthffpkdadffinaaDoor.Ev0 Go.Proofs.YthffpkdadffinaaDoor.X Go.Proofs.YthffpkdadffinaaDoor.Oa Go.Proofs.YthffpkdadffinaaDoor.Ob Go.Proofs.YthffpkdadffinaaDoor.Vp0 Go.Proofs.YthffpkdadffinaaDoor.Vu Go.Proofs.YthffpkdadffinaaDoor.Sga Go.Proofs.YthffpkdadffinaaDoor.Sgb Go.Proofs.YthffpkdadffinaaDoor.Sgc Go.Proofs.YthffpkdadffinaaDoor.Sgd Go.Proofs.YthffpkdadffinaaDoor.Sgp Go.Proofs.YthffpkdadffinaaDoor.Sgq
theorem ba_loop (b : ByteArray) : ∀ (q i : Nat) (r : List UInt8), i + q = b.size → ByteArray.toList.loop b i r = r.reverse ++ b.data.toList.drop i := by
  intro q
  induction q with
  | zero =>
    intro i r h
    rw [ByteArray.toList.loop]
    rw [if_neg (by omega), List.drop_eq_nil_of_le (by rw [Array.length_toList]; show b.size ≤ i; omega), List.append_nil]
  | succ q ih =>
    intro i r h
    have hi : i < b.data.toList.length := by rw [Array.length_toList]; show i < b.size; omega
    rw [ByteArray.toList.loop, if_pos (by omega), ih (i + 1) _ (by omega), List.drop_eq_getElem_cons hi]
    have e : b.get! i = b.data.toList[i] := by
      rw [Array.getElem_toList]
      show b.data[i]! = _
      exact getElem!_pos b.data i _
    rw [e]
    simp
theorem ba_data (b : ByteArray) : b.toList = b.data.toList := by
  unfold ByteArray.toList
  rw [ba_loop b b.size 0 [] (by omega)]
  simp
theorem ba_list (a b : ByteArray) : a.toList = b.toList ↔ a = b := by
  rw [ba_data, ba_data]
  constructor
  · intro h
    cases a
    cases b
    exact congrArg ByteArray.mk (Array.toList_inj.1 h)
  · intro h
    rw [h]
theorem bytesB_mk {l : List Int} (h : Bytes l) : bytesB l = true := by
  unfold bytesB
  rw [List.all_eq_true]
  intro x hx
  have := h x hx
  simp
  omega
end Go.Proofs.YthffpkdadffinaaDoor.Sgr
namespace Go.Proofs.YthffpkdadffinaaDoor.Ur
set_option linter.unusedVariables false
set_option linter.unusedSimpArgs false
open Go.RowKit Go.Proofs.YthffpkdadffinaaDoorW.PrintWords Go.Proofs.YthffpkdadffinaaDoor.Hp Go.Proofs.YthffpkdadffinaaDoor.X Go.Proofs.YthffpkdadffinaaDoor.Ux
theorem bnd_lo {c : Int} {bs : List (Int × Int)} (h : bnd c = some bs) : ∀ b, b ∈ bs → 128 ≤ b.1 ∧ b.2 ≤ 191 := by
  unfold bnd at h
  split at h
  · cases h; simp
  · split at h
    · cases h
    · split at h
      · cases h; simp
      · split at h
        · cases h
          intro b hb
          simp at hb
          rcases hb with rfl | rfl
          · constructor <;> simp only <;> split <;> omega
          · simp
        · cases h
          intro b hb
          simp at hb
          rcases hb with rfl | rfl
          · constructor <;> simp only <;> split <;> omega
          · simp
theorem one1_ascii (c : Int) (hc : c < 128) (t : List Int) : one1 c t = (c, 1, false) := by
  simp [one1, bnd, st, hc, cont]
end Go.Proofs.YthffpkdadffinaaDoor.Ur
namespace Go.Proofs.YthffpkdadffinaaDoor.Oqe
set_option linter.unusedVariables false
set_option linter.unusedSimpArgs false
open Go.Proofs.YthffpkdadffinaaDoor.Vd (decU)
open Go.RowKit Go.Proofs.YthffpkdadffinaaDoorW.PrintWords Go.Proofs.YthffpkdadffinaaDoor.Ev0 Go.Proofs.YthffpkdadffinaaDoor.X Go.Proofs.YthffpkdadffinaaDoor.Va Go.Proofs.YthffpkdadffinaaDoor.Ve Go.Proofs.YthffpkdadffinaaDoor.Vp0 Go.Proofs.YthffpkdadffinaaDoor.Vu Go.Proofs.YthffpkdadffinaaDoor.Na Go.Proofs.YthffpkdadffinaaDoor.Oa Go.Proofs.YthffpkdadffinaaDoor.Ob
theorem nrm_cut (a b : List Int) (hb : b = [] ∨ ∃ z t, flat b = z :: t ∧ cls z = 0) : nrm (a ++ b) = nrm a ++ nrm b := by
  unfold nrm
  rw [flat_app]
  refine ordL_cut _ _ ?_
  rcases hb with rfl | ⟨z, t, h, hz⟩
  · exact .inl rfl
  · exact .inr ⟨z, t, h, hz⟩
theorem opens_cut (l : List Int) (n : Nat) (hn : n < l.length) (ho : opn l[n] = true) : nrm l = nrm (l.take n) ++ nrm (l.drop n) := by
  have h := nrm_cut (l.take n) (l.drop n) (.inr ?_)
  · rwa [List.take_append_drop] at h
  · rw [List.drop_eq_getElem_cons hn, flat_cons]
    have hne := Ve.decF_ne 4 l[n]
    unfold opn at ho
    have h0 : cls ((decU l[n]).getD 0 0) = 0 := by simpa using (Bool.and_eq_true_iff.1 ho).1
    have e : decU l[n] = Vd.decF 4 l[n] := rfl
    rw [← e] at hne
    match hd : decU l[n], hne with
    | z :: t, _ =>
      rw [hd] at h0
      exact ⟨z, t ++ flat (l.drop (n + 1)), by simp, by simpa using h0⟩
end Go.Proofs.YthffpkdadffinaaDoor.Oqe
namespace Go.Proofs.YthffpkdadffinaaDoor.Sgt
set_option linter.unusedVariables false
set_option linter.unusedSimpArgs false
open Go.Proofs.YthffpkdadffinaaDoor.Ux (Bytes one1 bnd st cont dc dc_cons dc_nil dc_ind dc_rest dc_len rest1 full dec one1_width bnd_len one1_more)
open Go.Proofs.YthffpkdadffinaaDoor.Ve (opn)
open Go.Proofs.YthffpkdadffinaaDoor.Bk (ful ful_nil ful_cons)
open Go.Proofs.YthffpkdadffinaaDoor.En (enc enc_byte)
open Go.Proofs.YthffpkdadffinaaDoor.Ot (rns)
open Go.RowKit Go.Proofs.YthffpkdadffinaaDoorW.PrintWords Go.Proofs.YthffpkdadffinaaDoor.Ev0 Go.Proofs.YthffpkdadffinaaDoor.X Go.Proofs.YthffpkdadffinaaDoor.Oa Go.Proofs.YthffpkdadffinaaDoor.Ob Go.Proofs.YthffpkdadffinaaDoor.Vp0 Go.Proofs.YthffpkdadffinaaDoor.Vu Go.Proofs.YthffpkdadffinaaDoor.Sga Go.Proofs.YthffpkdadffinaaDoor.Sgb Go.Proofs.YthffpkdadffinaaDoor.Sgc Go.Proofs.YthffpkdadffinaaDoor.Sgd Go.Proofs.YthffpkdadffinaaDoor.Sgp Go.Proofs.YthffpkdadffinaaDoor.Sgq Go.Proofs.YthffpkdadffinaaDoor.Sgr
theorem ful_pos : ∀ (N : Nat) (b : List Int) (p q : Int), b.length ≤ N → (ful b p).map (·.f0) = (ful b q).map (·.f0)
  | _, [], p, q, _ => by rw [ful_nil, ful_nil]
  | 0, c :: t, p, q, h => by simp at h
  | N + 1, c :: t, p, q, h => by
    rw [ful_cons, ful_cons, List.map_cons, List.map_cons]
    have := Ux.drop_lt c t
    rw [ful_pos N _ _ (q + (one1 c t).2.1) (by simp only [List.length_cons] at h; omega)]
theorem rns_ful (b : List Int) (p : Int) : (ful b p).map (·.f0) = rns b := ful_pos b.length b p 0 (Nat.le_refl _)
theorem rns_nil : rns [] = [] := by rw [← rns_ful [] 0, ful_nil]; rfl
theorem rns_cons (c : Int) (t : List Int) : rns (c :: t) = (one1 c t).1 :: rns ((c :: t).drop (one1 c t).2.1.toNat) := by
  rw [← rns_ful _ 0, ful_cons, List.map_cons, rns_ful]
def Inv (b : List Int) (a e : Nat) (rs : List Int) : Prop := ∀ m, e ≤ m → rns ((b.take m).drop a) = rs ++ rns ((b.take m).drop e)
def cutT : List Int → List Int → List ByteArray
  | [], rs => [txt rs]
  | x :: t, rs => if opn x = true then txt rs :: cutT t [x] else cutT t (rs ++ [x])
def cutTS : List Int → List ByteArray
  | [] => []
  | x :: t => cutT t [x]
theorem cutT_app : ∀ (t u : List Int) (rs : List Int) (x : Int), opn x = true → cutT (t ++ x :: u) rs = cutT t rs ++ cutT u [x]
  | [], u, rs, x, h => by rw [List.nil_append]; show (if opn x = true then txt rs :: cutT u [x] else cutT u (rs ++ [x])) = _; rw [if_pos h]; rfl
  | y :: t, u, rs, x, h => by
    rw [List.cons_append, cutT, cutT]
    split
    · rw [cutT_app t u _ x h]; rfl
    · rw [cutT_app t u _ x h]
theorem cutTS_app (r s : List Int) (h : ∀ x t, s = x :: t → opn x = true) : cutTS (r ++ s) = cutTS r ++ cutTS s := by
  cases s with
  | nil => simp [cutTS]
  | cons x u =>
    cases r with
    | nil => rfl
    | cons y t => exact cutT_app t u [y] x (h x u rfl)
end Go.Proofs.YthffpkdadffinaaDoor.Sgt
namespace Go.Proofs.YthffpkdadffinaaDoor.Sgu
set_option linter.unusedVariables false
set_option linter.unusedSimpArgs false
open Go.Proofs.YthffpkdadffinaaDoor.Ux (Bytes)
open Go.Proofs.YthffpkdadffinaaDoor.Ve (opn)
open Go.Proofs.YthffpkdadffinaaDoor.Ot (rns)
open Go.RowKit Go.Proofs.YthffpkdadffinaaDoorW.PrintWords Go.Proofs.YthffpkdadffinaaDoor.Ev0 Go.Proofs.YthffpkdadffinaaDoor.X Go.Proofs.YthffpkdadffinaaDoor.Oa Go.Proofs.YthffpkdadffinaaDoor.Ob Go.Proofs.YthffpkdadffinaaDoor.Vp0 Go.Proofs.YthffpkdadffinaaDoor.Vu Go.Proofs.YthffpkdadffinaaDoor.Sgd Go.Proofs.YthffpkdadffinaaDoor.Sgt
theorem rns_len (b : List Int) : (rns b).length ≤ b.length := by unfold rns; rw [List.length_map]; exact Ud.full_len b
end Go.Proofs.YthffpkdadffinaaDoor.Sgu
namespace Go.Proofs.YthffpkdadffinaaDoor.Sgv
set_option linter.unusedVariables false
set_option linter.unusedSimpArgs false
open Go.Proofs.YthffpkdadffinaaDoor.Ux (Bytes full)
open Go.Proofs.YthffpkdadffinaaDoor.Ve (opn)
open Go.Proofs.YthffpkdadffinaaDoor.Ot (rns)
open Go.Proofs.YthffpkdadffinaaDoor.En (enc enc_byte enc_append)
open Go.RowKit Go.Proofs.YthffpkdadffinaaDoorW.PrintWords Go.Proofs.YthffpkdadffinaaDoor.Ev0 Go.Proofs.YthffpkdadffinaaDoor.X Go.Proofs.YthffpkdadffinaaDoor.Oa Go.Proofs.YthffpkdadffinaaDoor.Ob Go.Proofs.YthffpkdadffinaaDoor.Vp0 Go.Proofs.YthffpkdadffinaaDoor.Vu Go.Proofs.YthffpkdadffinaaDoor.Sga Go.Proofs.YthffpkdadffinaaDoor.Sgb Go.Proofs.YthffpkdadffinaaDoor.Sgd Go.Proofs.YthffpkdadffinaaDoor.Sgp Go.Proofs.YthffpkdadffinaaDoor.Sgq Go.Proofs.YthffpkdadffinaaDoor.Sgt Go.Proofs.YthffpkdadffinaaDoor.Sgu
def catB : List ByteArray → ByteArray
  | [] => ⟨#[]⟩
  | x :: t => x ++ catB t
theorem ba_ext {a b : ByteArray} (h : a.data.toList = b.data.toList) : a = b := by
  cases a
  cases b
  exact congrArg ByteArray.mk (Array.toList_inj.1 h)
theorem ba_app (a b : ByteArray) : (a ++ b).data.toList = a.data.toList ++ b.data.toList := by
  rw [ByteArray.data_append, Array.toList_append]
theorem str_app (a b : List Int) : strOfNums (a ++ b) = strOfNums a ++ strOfNums b := by
  refine ba_ext ?_
  rw [ba_app, strOfNums_data, strOfNums_data, strOfNums_data, List.map_append]
theorem txt_app (a b : List Int) (x : Int) (t : List Int) (hb : b = x :: t) (ho : opn x = true) : txt (a ++ b) = txt a ++ txt b := by
  have h := Oqe.opens_cut (a ++ b) a.length (by rw [hb, List.length_append, List.length_cons]; omega) (by rw [List.getElem_append_right (Nat.le_refl _)]; simp [hb, ho])
  rw [List.take_left, List.drop_left] at h
  unfold txt
  rw [h, enc_append, str_app]
theorem cutT_cat : ∀ (t rs : List Int), catB (cutT t rs) = txt (rs ++ t)
  | [], rs => by
    rw [List.append_nil]
    refine ba_ext ?_
    show (txt rs ++ (⟨#[]⟩ : ByteArray)).data.toList = _
    rw [ba_app]
    simp
  | x :: t, rs => by
    rw [cutT]
    split
    · rename_i h
      show txt rs ++ catB (cutT t [x]) = _
      rw [cutT_cat t [x], txt_app rs (x :: t) x t rfl h]
      rfl
    · rw [cutT_cat t (rs ++ [x]), List.append_assoc]
      rfl
theorem cutTS_cat (r : List Int) : catB (cutTS r) = txt r := by
  cases r with
  | nil => rfl
  | cons x t => exact cutT_cat t [x]
end Go.Proofs.YthffpkdadffinaaDoor.Sgv
namespace Go.Proofs.YthffpkdadffinaaDoor.Bkg
set_option linter.unusedVariables false
set_option linter.unusedSimpArgs false
open Go.RowKit Go.Proofs.YthffpkdadffinaaDoorW.PrintWords Go.Proofs.YthffpkdadffinaaDoor.Hp Go.Proofs.YthffpkdadffinaaDoor.Ux Go.Proofs.YthffpkdadffinaaDoor.En Go.Proofs.YthffpkdadffinaaDoor.Rt Go.Proofs.YthffpkdadffinaaDoor.X
theorem vld_bad : vld 65533 = true := by decide
theorem one1_good (c : Int) (t : List Int) (hc : 0 ≤ c ∧ c ≤ 255) (hB : Bytes t) : vld (one1 c t).1 = true ∧ ((one1 c t).1 ≠ 65533 → encv (one1 c t).1 = (c :: t).take (one1 c t).2.1.toNat) := by
  unfold one1 bnd st
  by_cases h1 : c < 128
  · rw [if_pos h1, if_pos h1]
    simp only [cont]
    refine ⟨by simp only [vld, decide_eq_true_eq]; omega, fun _ => ?_⟩
    unfold encv
    rw [if_pos h1]; rfl
  · rw [if_neg h1, if_neg h1]
    by_cases h2 : c < 194 ∨ 244 < c
    · rw [if_pos h2]
      exact ⟨vld_bad, fun h => absurd rfl h⟩
    · rw [if_neg h2]
      by_cases h3 : c < 224
      · rw [if_pos h3, if_pos h3]
        cases t with
        | nil => exact ⟨vld_bad, fun h => absurd rfl h⟩
        | cons x t =>
          simp only [cont]
          by_cases hx : x < 128 ∨ 191 < x
          · rw [if_pos hx]; exact ⟨vld_bad, fun h => absurd rfl h⟩
          · rw [if_neg hx]
            simp only
            refine ⟨by simp only [vld, decide_eq_true_eq]; omega, fun _ => ?_⟩
            unfold encv
            rw [if_neg (by omega), if_pos (by omega)]
            show _ = [c, x]
            congr 1
            · omega
            · congr 1; omega
      · rw [if_neg h3, if_neg h3]
        by_cases h4 : c < 240
        · rw [if_pos h4, if_pos h4]
          cases t with
          | nil => exact ⟨vld_bad, fun h => absurd rfl h⟩
          | cons x t =>
            simp only [cont]
            by_cases hx : x < (if c = 224 then 160 else 128) ∨ (if c = 237 then 159 else 191) < x
            · rw [if_pos hx]; exact ⟨vld_bad, fun h => absurd rfl h⟩
            · rw [if_neg hx]
              cases t with
              | nil => exact ⟨vld_bad, fun h => absurd rfl h⟩
              | cons y t =>
                simp only [cont]
                by_cases hy : y < 128 ∨ 191 < y
                · rw [if_pos hy]; exact ⟨vld_bad, fun h => absurd rfl h⟩
                · rw [if_neg hy]
                  simp only
                  have hx' : (c = 224 → 160 ≤ x) ∧ (c = 237 → x ≤ 159) ∧ 128 ≤ x ∧ x ≤ 191 := by
                    refine ⟨fun h => ?_, fun h => ?_, ?_, ?_⟩
                    · rw [if_pos h] at hx; omega
                    · rw [if_pos h] at hx; omega
                    · split at hx <;> omega
                    · split at hx <;> split at hx <;> omega
                  clear hx
                  refine ⟨by simp only [vld, decide_eq_true_eq]; omega, fun _ => ?_⟩
                  unfold encv
                  rw [if_neg (by omega), if_neg (by omega), if_pos (by omega)]
                  show _ = [c, x, y]
                  congr 1
                  · omega
                  · congr 1
                    · omega
                    · congr 1; omega
        · rw [if_neg h4, if_neg h4]
          cases t with
          | nil => exact ⟨vld_bad, fun h => absurd rfl h⟩
          | cons x t =>
            simp only [cont]
            by_cases hx : x < (if c = 240 then 144 else 128) ∨ (if c = 244 then 143 else 191) < x
            · rw [if_pos hx]; exact ⟨vld_bad, fun h => absurd rfl h⟩
            · rw [if_neg hx]
              cases t with
              | nil => exact ⟨vld_bad, fun h => absurd rfl h⟩
              | cons y t =>
                simp only [cont]
                by_cases hy : y < 128 ∨ 191 < y
                · rw [if_pos hy]; exact ⟨vld_bad, fun h => absurd rfl h⟩
                · rw [if_neg hy]
                  cases t with
                  | nil => exact ⟨vld_bad, fun h => absurd rfl h⟩
                  | cons z t =>
                    simp only [cont]
                    by_cases hz : z < 128 ∨ 191 < z
                    · rw [if_pos hz]; exact ⟨vld_bad, fun h => absurd rfl h⟩
                    · rw [if_neg hz]
                      simp only
                      have hx' : (c = 240 → 144 ≤ x) ∧ (c = 244 → x ≤ 143) ∧ 128 ≤ x ∧ x ≤ 191 := by
                        refine ⟨fun h => ?_, fun h => ?_, ?_, ?_⟩
                        · rw [if_pos h] at hx; omega
                        · rw [if_pos h] at hx; omega
                        · split at hx <;> omega
                        · split at hx <;> split at hx <;> omega
                      clear hx
                      refine ⟨by simp only [vld, decide_eq_true_eq]; omega, fun _ => ?_⟩
                      unfold encv
                      rw [if_neg (by omega), if_neg (by omega), if_neg (by omega)]
                      show _ = [c, x, y, z]
                      congr 1
                      · omega
                      · congr 1
                        · omega
                        · congr 1
                          · omega
                          · congr 1; omega
end Go.Proofs.YthffpkdadffinaaDoor.Bkg
namespace Go.Proofs.YthffpkdadffinaaDoor.Sgw
set_option linter.unusedVariables false
set_option linter.unusedSimpArgs false
open Go.Proofs.YthffpkdadffinaaDoor.Ux (Bytes full one1)
open Go.Proofs.YthffpkdadffinaaDoor.Ve (opn)
open Go.Proofs.YthffpkdadffinaaDoor.Vd (decU keys cases3)
open Go.Proofs.YthffpkdadffinaaDoor.Na (ordL ordL_mem ordL_starter)
open Go.Proofs.YthffpkdadffinaaDoor.Ot (rns)
open Go.Proofs.YthffpkdadffinaaDoor.En (enc enc_byte enc_append vld fixr)
open Go.RowKit Go.Proofs.YthffpkdadffinaaDoorW.PrintWords Go.Proofs.YthffpkdadffinaaDoor.Ev0 Go.Proofs.YthffpkdadffinaaDoor.X Go.Proofs.YthffpkdadffinaaDoor.Va Go.Proofs.YthffpkdadffinaaDoor.Oa Go.Proofs.YthffpkdadffinaaDoor.Ob Go.Proofs.YthffpkdadffinaaDoor.Vp0 Go.Proofs.YthffpkdadffinaaDoor.Vu Go.Proofs.YthffpkdadffinaaDoor.Sga Go.Proofs.YthffpkdadffinaaDoor.Sgb Go.Proofs.YthffpkdadffinaaDoor.Sgd Go.Proofs.YthffpkdadffinaaDoor.Sgp Go.Proofs.YthffpkdadffinaaDoor.Sgq Go.Proofs.YthffpkdadffinaaDoor.Sgt Go.Proofs.YthffpkdadffinaaDoor.Sgu Go.Proofs.YthffpkdadffinaaDoor.Sgv
def Shut (l : List Int) : Prop := ∀ x ∈ l, opn x = false
theorem dec_shut (r : Int) (hr : I32 r) (h : opn r = false) : Shut (decU r) := by
  have hb := bottom r hr
  have ho := opn_first r hr
  intro y hy
  cases hd : decU r with
  | nil => have := hb.lo; rw [hd] at this; simp at this
  | cons z t =>
    rw [hd] at hy ho
    rcases List.mem_cons.1 hy with rfl | hy
    · rw [← h, ← ho]; rfl
    · exact hb.shut y (by rw [hd]; exact hy)
theorem flat_shut (l : List Int) (hl : ∀ x ∈ l, I32 x) (h : Shut l) : Shut (flat l) := by
  intro y hy
  unfold flat at hy
  obtain ⟨x, hx, hy⟩ := List.mem_flatMap.1 hy
  exact dec_shut x (hl x hx) (h x hx) y hy
theorem nrm_shut (l : List Int) (hl : ∀ x ∈ l, I32 x) (h : Shut l) : Shut (nrm l) := fun y hy => flat_shut l hl h y ((ordL_mem _ _).1 hy)
theorem nrm_open (x : Int) (t : List Int) (hl : ∀ y ∈ x :: t, I32 y) (ho : opn x = true) : ∃ y u v, nrm (x :: t) = y :: ordL (u ++ v) ∧ opn y = true ∧ Shut u ∧ v = flat t := by
  have hx := hl x (List.mem_cons_self ..)
  have hb := bottom x hx
  have hf := opn_first x hx
  cases hd : decU x with
  | nil => have := hb.lo; rw [hd] at this; simp at this
  | cons z w =>
    rw [hd] at hf
    have hz : opn z = true := by rw [← ho, ← hf]; rfl
    have hpz := hb.zero z (by rw [hd]; exact List.mem_cons_self ..)
    have hc : cls z = 0 := by
      rw [opn_zero z hpz] at hz
      simpa using (Bool.and_eq_true_iff.1 hz).1
    refine ⟨z, w, flat t, ?_, hz, fun y hy => hb.shut y (by rw [hd]; exact hy), rfl⟩
    unfold nrm
    rw [flat_cons, hd]
    have h := ordL_starter [] (w ++ flat t) hc
    exact h
theorem cutT_shut : ∀ (u rs : List Int), Shut u → cutT u rs = [txt (rs ++ u)]
  | [], rs, _ => by rw [List.append_nil]; rfl
  | x :: u, rs, h => by
    rw [cutT, h x (List.mem_cons_self ..)]
    simp only [Bool.false_eq_true, if_false]
    rw [cutT_shut u _ (fun y hy => h y (List.mem_cons_of_mem _ hy)), List.append_assoc]
    rfl
theorem txt_nrm (l : List Int) (hl : ∀ x ∈ l, I32 x) : txt (nrm l) = txt l := by unfold txt; rw [nrm_id l hl]
theorem seg_nrm (x : Int) (t : List Int) (hl : ∀ y ∈ x :: t, I32 y) (h : Shut t) : cutTS (nrm (x :: t)) = [txt (x :: t)] := by
  have hne : nrm (x :: t) ≠ [] := by
    intro e
    have h1 := nrm_len (x :: t)
    rw [e] at h1
    exact flat_ne (x :: t) (by simp) (List.length_eq_zero_iff.1 h1.symm)
  have hsh : ∃ y u, nrm (x :: t) = y :: u ∧ Shut u := by
    by_cases ho : opn x = true
    · obtain ⟨y, u, v, e, _, hu, hv⟩ := nrm_open x t hl ho
      refine ⟨y, _, e, fun z hz => ?_⟩
      rcases List.mem_append.1 ((ordL_mem _ _).1 hz) with h1 | h1
      · exact hu z h1
      · rw [hv] at h1
        exact flat_shut t (fun y hy => hl y (List.mem_cons_of_mem _ hy)) h z h1
    · have ho2 : opn x = false := by simpa using ho
      have hs := nrm_shut (x :: t) hl (by intro z hz; rcases List.mem_cons.1 hz with rfl | hz; (· exact ho2); (· exact h z hz))
      cases hn : nrm (x :: t) with
      | nil => exact absurd hn hne
      | cons y u => exact ⟨y, u, rfl, fun z hz => hs z (by rw [hn]; exact List.mem_cons_of_mem _ hz)⟩
  obtain ⟨y, u, e, hu⟩ := hsh
  rw [e]
  show cutT u [y] = _
  rw [cutT_shut u [y] hu]
  show [txt (y :: u)] = _
  rw [← e, txt_nrm _ hl]
theorem cut_nrm : ∀ (t : List Int) (x : Int) (v : List Int), (∀ y ∈ (x :: v) ++ t, I32 y) → Shut v → cutTS (nrm ((x :: v) ++ t)) = cutT t (x :: v)
  | [], x, v, hl, hv => by
    rw [List.append_nil] at hl ⊢
    exact seg_nrm x v hl hv
  | z :: t, x, v, hl, hv => by
    have hl1 : ∀ y ∈ x :: v, I32 y := fun y hy => hl y (List.mem_append_left _ hy)
    have hl2 : ∀ y ∈ z :: t, I32 y := fun y hy => hl y (List.mem_append_right _ hy)
    rw [cutT]
    by_cases ho : opn z = true
    · rw [if_pos ho]
      have h := Oqe.opens_cut ((x :: v) ++ z :: t) (x :: v).length (by rw [List.length_append, List.length_cons (a := z)]; omega) (by rw [List.getElem_append_right (Nat.le_refl _)]; simp [ho])
      rw [List.take_left, List.drop_left] at h
      rw [h, cutTS_app, seg_nrm x v hl1 hv]
      · have ih := cut_nrm t z [] (by simpa using hl2) (fun _ h => by cases h)
        simp only [List.singleton_append] at ih ⊢
        rw [ih]
      · intro a b hab
        obtain ⟨y, u, w, e, hy, _⟩ := nrm_open z t hl2 ho
        rw [e] at hab
        rw [← (List.cons.inj hab).1]
        exact hy
    · have ho2 : opn z = false := by simpa using ho
      rw [if_neg ho]
      have e : (x :: v) ++ z :: t = (x :: (v ++ [z])) ++ t := by simp
      rw [e] at hl ⊢
      rw [cut_nrm t x (v ++ [z]) hl (by intro y hy; rcases List.mem_append.1 hy with h | h; (· exact hv y h); (· rw [List.mem_singleton.1 h]; exact ho2))]
      rfl
theorem cutTS_nrm (r : List Int) (hl : ∀ y ∈ r, I32 y) : cutTS (nrm r) = cutTS r := by
  cases r with
  | nil => rfl
  | cons x t => exact cut_nrm t x [] hl (fun _ h => by cases h)
theorem vld_keys : ∀ r ∈ keys, (decU r).all vld = true := by decide +kernel
theorem vld_dec (r : Int) (h : vld r = true) : ∀ y ∈ decU r, vld y = true := by
  rcases cases3 r with h1 | ⟨s, hs, rfl⟩ | h1
  · exact List.all_eq_true.1 (vld_keys r h1)
  · intro y hy
    rw [syl_dec s hs] at hy
    have h5 : y = 4352 + ((s / 588 : Nat) : Int) ∨ y = 4449 + ((s % 588 / 28 : Nat) : Int) ∨ y = 4519 + ((s % 28 : Nat) : Int) := by
      rcases List.mem_append.1 hy with h | h
      · rcases List.mem_cons.1 h with h | h
        · exact .inl h
        · exact .inr (.inl (List.mem_singleton.1 h))
      · split at h
        · cases h
        · exact .inr (.inr (List.mem_singleton.1 h))
    unfold vld
    rw [decide_eq_true_eq]
    omega
  · intro y hy
    rw [dec_zero r h1, List.mem_singleton] at hy
    rw [hy]
    exact h
theorem vld_nrm (l : List Int) (h : ∀ x ∈ l, vld x = true) : ∀ y ∈ nrm l, vld y = true := by
  intro y hy
  have hy := (ordL_mem _ _).1 hy
  unfold flat at hy
  obtain ⟨x, hx, hy⟩ := List.mem_flatMap.1 hy
  exact vld_dec x (h x hx) y hy
theorem vld_rns : ∀ (N : Nat) (b : List Int), b.length ≤ N → Bytes b → ∀ y ∈ rns b, vld y = true
  | _, [], _, _ => by rw [rns_nil]; intro y hy; cases hy
  | 0, c :: t, h, _ => by simp at h
  | N + 1, c :: t, h, hB => by
    rw [rns_cons]
    intro y hy
    rcases List.mem_cons.1 hy with rfl | hy
    · exact (Bkg.one1_good c t (hB c (List.mem_cons_self ..)) (fun x hx => hB x (List.mem_cons_of_mem _ hx))).1
    · have := Ux.drop_lt c t
      exact vld_rns N _ (by simp only [List.length_cons] at h; omega) (fun x hx => hB x (List.mem_of_mem_drop hx)) y hy
theorem rns_enc (l : List Int) (h : ∀ x ∈ l, vld x = true) : rns (enc l) = l := by
  have := Bk.ful_enc l 0
  rw [rns_ful] at this
  rw [this]
  have e : ∀ x ∈ l, fixr x = x := fun x hx => by unfold fixr; rw [if_pos (h x hx)]
  rw [List.map_congr_left (g := id) (by intro x hx; exact e x hx), List.map_id]
theorem r32 (a : List Int) (ha : Bytes a) : ∀ x ∈ rns a, I32 x := Ot.runes32 a ha
theorem key (a b : List Int) (ha : Bytes a) (hb : Bytes b) : cutTS (rns a) = cutTS (rns b) ↔ txt (rns a) = txt (rns b) := by
  constructor
  · intro h
    rw [← cutTS_cat, ← cutTS_cat, h]
  · intro h
    have h1 := Bk.str_inj (enc_byte _) (enc_byte _) h
    have va := vld_nrm _ (vld_rns a.length a (Nat.le_refl _) ha)
    have vb := vld_nrm _ (vld_rns b.length b (Nat.le_refl _) hb)
    have h2 : nrm (rns a) = nrm (rns b) := by rw [← rns_enc _ va, ← rns_enc _ vb, h1]
    rw [← cutTS_nrm _ (r32 a ha), ← cutTS_nrm _ (r32 b hb), h2]
end Go.Proofs.YthffpkdadffinaaDoor.Sgw
