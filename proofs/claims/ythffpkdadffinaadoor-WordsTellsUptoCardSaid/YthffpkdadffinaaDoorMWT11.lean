/-
  Several texts of this claim in one: what its law's proof uses.
-/
import Derived.Test.YthffpkdadffinaaDoorMWT10
import Derived.Test.YthffpkdadffinaaDoorMWT3
import Derived.BigQuiet
import Derived.Test.YthffpkdadffinaaDoorMWT9
namespace Go.Proofs.YthffpkdadffinaaDoor.Sgb
set_option linter.unusedVariables false
set_option linter.unusedSimpArgs false
open Go.Proofs.YthffpkdadffinaaDoor.Vd (decU)
open Go.Proofs.YthffpkdadffinaaDoor.Ve (opn)
open Go.Proofs.YthffpkdadffinaaDoor.Fr (K3 T3)
open Go.RowKit YthffpkdadffinaaDoorW.PrintWords Hp Fm X Va Oa Vp0 Cn Sga
abbrev kP := k103
abbrev TP : Nat := 103
abbrev SP := S103
abbrev SG := S67
def flushB (o : List Int) (x : Int) : Bool := !o.isEmpty && opn x
def tk (lim : Int) : List SP → List Int → Int → Int → List SG × List Int × Int × Int × Bool
  | [], o, a, e => ([], o, a, e, false)
  | p :: ps, o, a, e =>
    if flushB o p.f0 = true then
      if lim < ((decU p.f0).length : Int) then ([⟨txt o, a, e⟩], [], p.f1, p.f1 + p.f2, true)
      else (⟨txt o, a, e⟩ :: (tk lim ps (decU p.f0) p.f1 (p.f1 + p.f2)).1, (tk lim ps (decU p.f0) p.f1 (p.f1 + p.f2)).2)
    else
      if lim < ((o ++ decU p.f0).length : Int) then ([], [], a, p.f1 + p.f2, true)
      else tk lim ps (o ++ decU p.f0) a (p.f1 + p.f2)
theorem OpensR (w : World) (hG : G w) (x : Int) (hx : I32 x) : Calls Tryd.prog 59 #[.int .i32 x] w fun e w' => e = .returned (.bool (opn x)) ∧ Below w.heap.size w w' :=
  ucd_Opens.calls x (opn x) w (by unfold ucd_Opens.f; exact if_pos hx) hG
theorem DecG (w : World) (hG : G w) (x : Int) (hx : I32 x) : Calls Tryd.prog 57 #[.int .i32 x] w fun e w' => ∃ v, e = .returned v ∧ K3.R T3 w' w.heap.size (fun _ => True) v (decU x) ∧ Below w.heap.size w w' :=
  ucd_Decompose.calls x (decU x) w (by unfold ucd_Decompose.f; exact if_pos hx) hG
theorem pt_at {w : World} {A : Option Addr} {n : Nat} {l : List SP} (h : Kd.C kP w A n l) (j : Nat) (hj : j < n) (hjl : j < l.length) :
    ∃ ad, A = some ad ∧ w.cell? (ad.add (j * 3)) = some (.int .i32 l[j].f0) ∧ w.cell? ⟨(ad.add (j * 3)).block, (ad.add (j * 3)).off + 1, none⟩ = some (.int .i64 l[j].f1) ∧ w.cell? ⟨(ad.add (j * 3)).block, (ad.add (j * 3)).off + 2, none⟩ = some (.int .i64 l[j].f2) := by
  have := at_T103 h (j : Int) (by omega) (by omega); (have e : rd_T103 l (j : Int) = l[j] := by unfold rd_T103; simp [List.getD_eq_getElem?_getD, List.getElem?_eq_getElem hjl]); rw [Int.toNat_natCast, e] at this; exact this
def fine (p : SP) : Prop := I32 p.f0 ∧ 0 ≤ p.f1 ∧ p.f1 ≤ 4000000000000000 ∧ 0 ≤ p.f2 ∧ p.f2 ≤ 4000000000000000
def errOf (b : Bool) : Int := if b = true then 6 else 0
def Ts (w0 : World) (g gd : Nat) (lim : Int) (cl : Bool) (A : Option Addr) (n c : Nat) (ps : List SP) (M : List Th) (o : List Int) (a e : Int) (er : Int) (out : List SG) (outv : Value) (w : World) : Prop :=
  ∃ ov, Sep w0 (blkT g (segCells gd lim ov a e cl er) TS :: rowT K3 T3 w0.heap.size ov o :: rowT kP TP w0.heap.size (.slice A n c) ps :: (M ++ [rowT kG TG w0.heap.size outv out])) w
def catT (out : List SG) (r : List SG × List Int × Int × Int × Bool) : List SG × List Int × Int × Int × Bool := (out ++ r.1, r.2)
theorem tk_step (lim : Int) (p : SP) (ps : List SP) (o : List Int) (a e : Int) (out : List SG) (o1 : List Int) (a1 : Int) (out1 : List SG)
    (h : (o1, a1, out1) = if flushB o p.f0 = true then ([], p.f1, out ++ [⟨txt o, a, e⟩]) else (o, a, out)) :
    catT out (tk lim (p :: ps) o a e) = if lim < ((o1 ++ decU p.f0).length : Int) then (out1, [], a1, p.f1 + p.f2, true) else catT out1 (tk lim ps (o1 ++ decU p.f0) a1 (p.f1 + p.f2)) := by
  rw [tk]; by_cases hf : flushB o p.f0 = true
  · rw [if_pos hf] at h ⊢; obtain ⟨rfl, h2⟩ := Prod.mk.inj h; obtain ⟨rfl, rfl⟩ := Prod.mk.inj h2; rw [List.nil_append]; split
    · rfl
    · simp [catT]
  · rw [if_neg hf] at h ⊢; obtain ⟨rfl, h2⟩ := Prod.mk.inj h; obtain ⟨rfl, rfl⟩ := Prod.mk.inj h2; split
    · simp [catT]
    · rfl
def Ls (w0 : World) (g gd : Nat) (lim : Int) (cl : Bool) (ad : Addr) (n c : Nat) (ps : List SP) (M : List Th) (o : List Int) (a e : Int) (er : Int) (out : List SG) (outv ov : Value) (pb : Nat) (p : SP) (w : World) : Prop :=
  Sep w0 (blkT g (segCells gd lim ov a e cl er) TS :: rowT K3 T3 w0.heap.size ov o :: rowT kP TP w0.heap.size (.slice (some ad) n c) ps :: (M ++ rowT kG TG w0.heap.size outv out :: [blkT pb #[.int .i32 p.f0, .int .i64 p.f1, .int .i64 p.f2] TP])) w
def TakePost (w0 : World) (g gd : Nat) (lim : Int) (cl : Bool) (A : Option Addr) (n c : Nat) (ps : List SP) (M : List Th) (r : List SG × List Int × Int × Int × Bool) (E : Ending) (w' : World) : Prop :=
  ∃ outv, E = .returned (.tuple #[outv, .int .i64 (errOf r.2.2.2.2)]) ∧ Ts w0 g gd lim cl A n c ps M r.2.1 r.2.2.1 r.2.2.2.1 (errOf r.2.2.2.2) r.1 outv w'
set_option maxRecDepth 100000 in
set_option maxHeartbeats 8000000 in
theorem TakeS (w0 : World) (hG : G w0) (w : World) (g gd : Nat) (lim : Int) (cl : Bool) (A : Option Addr) (n c : Nat) (ps : List SP) (M : List Th) (o : List Int) (a e : Int) (ov : Value)
    (h : Sep w0 (blkT g (segCells gd lim ov a e cl 0) TS :: rowT K3 T3 w0.heap.size ov o :: rowT kP TP w0.heap.size (.slice A n c) ps :: M) w)
    (hps : ∀ p ∈ ps, fine p) (hl : n ≤ 100000000) (hlim : lim ≤ 50000000) (ho : (o.length : Int) ≤ lim) (ho32 : ∀ x ∈ o, I32 x) :
    Calls Tryd.prog 44 #[.pointer (some ⟨g, 0, none⟩), .slice A n c] w (TakePost w0 g gd lim cl A n c ps M (tk lim ps o a e)) := by
  have hnl := (h.rows 2 rfl).1; have S0 := Aside0.mk (show Ts w0 g gd lim cl A n c ps M o a e 0 [] (.slice none 0 0) w from ⟨ov, h.empty kG TG w0.heap.size⟩); obtain ⟨R, hR⟩ : ∃ R, R = tk lim ps o a e := ⟨_, rfl⟩; rw [← hR]; have HR := Aside0.mk hR; have HN := Aside0.mk hnl; have HG := Aside0.mk hG; have HPS := Aside0.mk hps; have HO32 := Aside0.mk ho32; clear h hnl hG hps hR ho32; go_enter Tryd.func44, Tryd.ntmps44; go_wp2; go_loopw [6, 11] (fun v6 v11 wr => ∃ (i : Nat) (o : List Int) (a e : Int) (out : List SG), v11 = .int .i64 i ∧ i ≤ n ∧ out.length ≤ i ∧ (o.length : Int) ≤ lim ∧ Aside0 (∀ x ∈ o, I32 x) ∧ Aside0 (R = catT out (tk lim (ps.drop i) o a e)) ∧ Aside0 (Ts w0 g gd lim cl A n c ps M o a e 0 out v6 wr)) (fun _ v11 _ => n - (intOf v11).toNat)
  case atStart => exact ⟨0, o, a, e, [], rfl, Nat.zero_le _, Nat.zero_le _, ho, HO32, ⟨HR.out⟩, S0⟩
  case round =>
    clear S0 HR HO32 ho; obtain ⟨i, o, a, e, out, rfl, hi, hout, ho, HO32, HR, HS⟩ := hrel; by_cases hlt : i < n
    · have hd : decide ((i : Int) < (n : Int)) = true := decide_eq_true (by omega); have hd2 : decide (i < n) = true := decide_eq_true hlt; (have hil : i < ps.length := by have := HN.out; omega); obtain ⟨ov, hS⟩ := HS.out; obtain ⟨ad, rfl, z0, z1, z2⟩ := pt_at (hS.rows 2 rfl).2.2 i hlt hil; have hfp := HPS.out _ (List.getElem_mem hil); have hdr := List.drop_eq_getElem_cons hil; have hr := HR.out; rw [hdr] at hr; obtain ⟨p, hp⟩ : ∃ p, p = ps[i] := ⟨_, rfl⟩; rw [← hp] at z0 z1 z2 hfp hr; obtain ⟨ov, hov⟩ : ∃ v, v = ov := ⟨_, rfl⟩; rw [← hov] at hS; have S1 := Aside0.mk hS; have HR1 := Aside0.mk hr; have HFP := Aside0.mk hfp; (have hn0 : (0 : Int) ≤ (i : Int) := by omega); (have hn1 : (i : Int) < (n : Int) := by omega); clear hS hfp hdr hr hp hov HR HS; go_upto_region 5 with (fail)
      have S2 := Aside0.mk (show Ls w0 g gd lim cl ad n c ps M o a e 0 out u6 ov wr.heap.size p (wr.alloc (.cells #[.int .i32 p.f0, .int .i64 p.f1, .int .i64 p.f2] TP)) from by
        have h := S1.out.blk_new #[.int .i32 p.f0, .int .i64 p.f1, .int .i64 p.f2] TP; simp only [List.cons_append, List.append_assoc] at h
        exact h)
      obtain ⟨pb, hpb⟩ : ∃ pb, pb = wr.heap.size := ⟨_, rfl⟩; rw [← hpb] at S2 ⊢; generalize (wr.alloc (.cells #[.int .i32 p.f0, .int .i64 p.f1, .int .i64 p.f2] TP)) = w2 at S2 ⊢; clear S1 z0 z1 z2 hpb; obtain ⟨fl, hfl⟩ : ∃ fl, fl = flushB o p.f0 := ⟨_, rfl⟩; have HFL := Aside0.mk hfl; clear hfl; go_cut [25] (fun v25 wc => v25 = .bool fl ∧ Aside0 (Ls w0 g gd lim cl ad n c ps M o a e 0 out u6 ov pb p wc))
      case first =>
        obtain ⟨Ao, co, rfl, hco, hCo⟩ := S2.out.reads 1 rfl; obtain ⟨m, hm⟩ : ∃ m, m = o.length := ⟨_, rfl⟩; have SO := S2; rw [← hm] at S2 hco hCo; have hcell := blk_cell (S2.out.blk 0 rfl).1 2; have hp0 := blk_cell (S2.out.blk (M.length + 4) (at4 _ _ _ _ _ _ _)).1 0; simp only [segCells] at hcell; have HM := Aside0.mk hm; have HCo := Aside0.mk (And.intro hco hCo); clear hco hCo hm S2; rcases Nat.eq_zero_or_pos m with h0 | h0
        · subst h0; (have hf : fl = false := by rw [HFL.out, List.eq_nil_of_length_eq_zero HM.out.symm]; rfl); have hd3 : decide ((0 : Int) > 0) = false := rfl; subst hf; go_wp2; go_meet
          case rel => exact ⟨rfl, SO⟩
        · have hd3 : decide (0 < m) = true := decide_eq_true h0
          have hne : o.isEmpty = false := by
            cases o with
            | nil => exact absurd HM.out (by simp; omega)
            | cons x t => rfl
          (have hf : fl = opn p.f0 := by rw [HFL.out]; unfold flushB; rw [hne]; rfl); have HOP := Aside0.mk (OpensR w2 (HG.out.below SO.out.below) p.f0 HFP.out.1); rw [← hf] at HOP; clear hne hf
          cases fl with
          | true =>
            go_wp2_with (first | (go_at_call 59; go_must (refine HOP.out.mono ?_; rintro e w3 ⟨rfl, p1⟩; have S3 := Aside0.mk (SO.out.later p1); clear p1))); go_meet
            case rel => exact ⟨rfl, S3⟩
          | false =>
            go_wp2_with (first | (go_at_call 59; go_must (refine HOP.out.mono ?_; rintro e w3 ⟨rfl, p1⟩; have S3 := Aside0.mk (SO.out.later p1); clear p1))); go_meet
            case rel => exact ⟨rfl, S3⟩
      case rest =>
        clear S2; obtain ⟨rfl, S2⟩ := hcut; go_upto_if 25 with (fail); go_cut [6] (fun v6 wc => ∃ (o1 : List Int) (a1 : Int) (out1 : List SG) (ov1 : Value), out1.length ≤ i + 1 ∧ Aside0 ((o1, a1, out1) = if fl = true then ([], p.f1, out ++ [⟨txt o, a, e⟩]) else (o, a, out)) ∧ Aside0 (Ls w0 g gd lim cl ad n c ps M o1 a1 e 0 out1 v6 ov1 pb p wc))
        case first =>
          cases fl with
          | false =>
            go_wp2; go_meet
            case rel => exact ⟨o, a, out, ov, by omega, ⟨rfl⟩, S2⟩
          | true =>
            obtain ⟨Ao, co, rfl, hco, hCo⟩ := S2.out.reads 1 rfl; have HW := Aside0.mk (WholeP wc (HG.out.below S2.out.below) g gd lim a e 0 cl Ao o.length co o (S2.out.blk 0 rfl).1 hCo rfl hco HO32.out (by omega)); clear hCo hco; go_upto_region 7 with (first | (go_at_call 51; go_must (refine HW.out.mono ?_; rintro E w3 ⟨rfl, p1⟩; have S3 := Aside0.mk (S2.out.later p1); clear p1; obtain ⟨ok1, hR1, hf1, hN1⟩ := Sep.row (d := kG) (e := TG) (base := w0.heap.size) (v := u6) (xs := out) S3.out (M.length + 3) (at3 _ _ _ _ _ _); have HR1 := Aside0.mk hR1; have HF1 := Aside0.mk hf1; have HN1 := Aside0.mk hN1; have HB3 := Aside0.mk S3.out.below; clear hR1 hf1 hN1)) | (at_builtin; go_must (refine Kd.R_append kG (w0 := w0) w0.heap.size rfl (.tmp 26) (.tmp 29) 29 TG (.agg #[.string ⟨#[]⟩, .int .i64 0, .int .i64 0]) 32 rfl Tryd.underlying29 info67 rfl (by decide) (by decide) u6 out (⟨txt o, a, e⟩ : SG) [.string (txt o), .int .i64 a, .int .i64 e] ok1 (fun _ => False) rfl rfl ?aP (fun _ hk => hk.elim) ?aF ?aO ?aB ?aS ?aL ?_; (case aP => exact k67_mkM _ _ _ ⟨txt o, a, e⟩); (case aB => exact HB3.out); (case aF => exact HF1.out); (case aO => exact HR1.out); (case aS => exact HB3.out.size); (case aL => omega); intro v6 w4 ho hb hg hat; have S4 := Aside0.mk (show Ls w0 g gd lim cl ad n c ps M o a e 0 (out ++ [⟨txt o, a, e⟩]) v6 (.slice Ao o.length co) pb p w4 from (by have h := HN1.out v6 w4 _ ho hg; rw [set3] at h; exact h)); clear ho hb hg hat HR1 HF1 HN1 S3))); clear HW HB3; have HPB := Aside0.mk (S4.out.blk (M.length + 4) (at4 _ _ _ _ _ _ _)).1; have HGB := Aside0.mk (S4.out.blk 0 rfl).1; refine wp_region_held_drew (S := fun W => W.heap[pb]? = some (.cells #[.int .i32 p.f0, .int .i64 p.f1, .int .i64 p.f2] TP (0, 0))) (by kernel_rfl) HPB.out (fun hS => ?_); refine wpAnyH_take (i := 0) (oi := { dst := some 31, op := _, type := _, pos := _, after := _, guard := _ }) (v := .pointer (some ⟨g, 0, none⟩)) rfl (by kernel_rfl) (by kernel_rfl) (by kernel_rfl) (fun _ _ _ h => h) (Or.inl ⟨by rfl, fun W hW => ?_⟩) hS ?_
            · (go_simp)
            (try simp only [Act.put, List.setIfInBounds_toArray, List.set_cons_zero, List.set_cons_succ]); refine wpAnyH_take (i := 1) (oi := { dst := some 32, op := _, type := _, pos := _, after := _, guard := _ }) (v := .pointer (some ⟨g, 0, none⟩)) rfl (by kernel_rfl) (by kernel_rfl) (by kernel_rfl) (fun _ _ _ h => h) (Or.inl ⟨by rfl, fun W hW => ?_⟩) hS ?_
            · (go_simp)
            (try simp only [Act.put, List.setIfInBounds_toArray, List.set_cons_zero, List.set_cons_succ]); refine wpAnyH_take (i := 2) (oi := { dst := some 33, op := _, type := _, pos := _, after := _, guard := _ }) (v := .pointer (some ⟨pb, 1, none⟩)) rfl (by kernel_rfl) (by kernel_rfl) (by kernel_rfl) (fun _ _ _ h => h) (Or.inl ⟨by rfl, fun W hW => ?_⟩) hS ?_
            · (go_simp)
            (try simp only [Act.put, List.setIfInBounds_toArray, List.set_cons_zero, List.set_cons_succ]); refine wpAnyH_take (i := 3) (oi := { dst := some 34, op := _, type := _, pos := _, after := _, guard := _ }) (v := .int .i64 p.f1) rfl (by kernel_rfl) (by kernel_rfl) (by kernel_rfl) (fun _ _ _ h => h) (Or.inl ⟨by rfl, fun W hW => ?_⟩) hS ?_
            · (have hcell := blk_cell hW 1; go_simp)
            (try simp only [Act.put, List.setIfInBounds_toArray, List.set_cons_zero, List.set_cons_succ]); refine wpAnyH_take (i := 4) (oi := { dst := some 35, op := _, type := _, pos := _, after := _, guard := _ }) (v := .pointer (some ⟨g, 0, none⟩)) rfl (by kernel_rfl) (by kernel_rfl) (by kernel_rfl) (fun _ _ _ h => h) (Or.inl ⟨by rfl, fun W hW => ?_⟩) hS ?_
            · (go_simp)
            (try simp only [Act.put, List.setIfInBounds_toArray, List.set_cons_zero, List.set_cons_succ]); refine wpAnyH_take (i := 5) (oi := { dst := some 36, op := _, type := _, pos := _, after := _, guard := _ }) (v := .pointer (some ⟨g, 2, none⟩)) rfl (by kernel_rfl) (by kernel_rfl) (by kernel_rfl) (fun _ _ _ h => h) (Or.inl ⟨by rfl, fun W hW => ?_⟩) hS ?_
            · (go_simp)
            (try simp only [Act.put, List.setIfInBounds_toArray, List.set_cons_zero, List.set_cons_succ]); have c2 := blk_cell HGB.out 2; have f2 := blk_frozen HGB.out 2; simp only [segCells] at c2; have S5 := Aside0.mk (show Ls w0 g gd lim cl ad n c ps M [] a e 0 (out ++ [⟨txt o, a, e⟩]) v6 (.slice none 0 0) pb p (w4.setCell ⟨g, 2, none⟩ (.slice none 0 0)) from (S4.out.blk_set 0 rfl 2 (.slice none 0 0) rfl).let_go K3 T3 w0.heap.size 1 rfl); have HPB5 := Aside0.mk (S5.out.blk (M.length + 4) (at4 _ _ _ _ _ _ _)).1; refine wpAnyH_ready (rs := [6]) (by kernel_rfl) (by simp) ?_; refine AllReadyH.cons (o := { dst := none, op := _, type := _, pos := _, after := _, guard := _ }) rfl (fun K hK => ?_) AllReadyH.nil; go_simp; refine hK.out _ _ HPB5.out (fun hS2 => ?_); clear hK K hS; have hS := hS2; clear hS2; (try simp only [Act.put, List.setIfInBounds_toArray, List.set_cons_zero, List.set_cons_succ]); refine wpAnyH_take (i := 7) (oi := { dst := some 37, op := _, type := _, pos := _, after := _, guard := _ }) (v := .pointer (some ⟨g, 0, none⟩)) rfl (by kernel_rfl) (by kernel_rfl) (by kernel_rfl) (fun _ _ _ h => h) (Or.inl ⟨by rfl, fun W hW => ?_⟩) hS ?_
            · (go_simp)
            (try simp only [Act.put, List.setIfInBounds_toArray, List.set_cons_zero, List.set_cons_succ]); refine wpAnyH_take (i := 8) (oi := { dst := some 38, op := _, type := _, pos := _, after := _, guard := _ }) (v := .pointer (some ⟨g, 3, none⟩)) rfl (by kernel_rfl) (by kernel_rfl) (by kernel_rfl) (fun _ _ _ h => h) (Or.inl ⟨by rfl, fun W hW => ?_⟩) hS ?_
            · (go_simp)
            (try simp only [Act.put, List.setIfInBounds_toArray, List.set_cons_zero, List.set_cons_succ]); have c3 := blk_cell (S5.out.blk 0 rfl).1 3; have f3 := blk_frozen (S5.out.blk 0 rfl).1 3; simp only [segCells] at c3; have S6 := Aside0.mk (show Ls w0 g gd lim cl ad n c ps M [] p.f1 e 0 (out ++ [⟨txt o, a, e⟩]) v6 (.slice none 0 0) pb p ((w4.setCell ⟨g, 2, none⟩ (.slice none 0 0)).setCell ⟨g, 3, none⟩ (.int .i64 p.f1)) from S5.out.blk_set 0 rfl 3 (.int .i64 p.f1) rfl); have HPB6 := Aside0.mk (S6.out.blk (M.length + 4) (at4 _ _ _ _ _ _ _)).1; have S7 := Aside0.mk (show Ls w0 g gd lim cl ad n c ps M [] p.f1 e 0 (out ++ [⟨txt o, a, e⟩]) v6 (.slice none 0 0) pb p (((w4.setCell ⟨g, 2, none⟩ (.slice none 0 0)).setCell ⟨g, 3, none⟩ (.int .i64 p.f1)).drew) from S6.out.later ((Drawn0.refl _).step 1).below); clear c2 f2; refine wpAnyH_ready (rs := [9]) (by kernel_rfl) (by simp) ?_; refine AllReadyH.cons (o := { dst := none, op := _, type := _, pos := _, after := _, guard := _ }) rfl (fun K hK => ?_) AllReadyH.nil; go_simp; refine hK.out _ _ HPB6.out (fun hS2 => ?_); clear hK K hS hS2 c3 f3; refine wpAnyH_done (by kernel_rfl) ?_ _; go_wp2; go_meet
            case rel => exact ⟨[], p.f1, out ++ [⟨txt o, a, e⟩], .slice none 0 0, by simp; omega, ⟨rfl⟩, S7⟩
        case rest =>
          obtain ⟨o1, a1, out1, ov1, hout1, HST, S3⟩ := hcut; clear S2; have hst := tk_step lim p (ps.drop (i + 1)) o a e out o1 a1 out1 (by rw [← HFL.out]; exact HST.out); rw [← HR1.out] at hst; have hdl := Oa.dec_len3 p.f0 HFP.out.1
          have ho1 : (o1.length : Int) ≤ lim ∧ ∀ x ∈ o1, I32 x := by
            have h := HST.out
            cases fl with
            | true => simp only [if_true, Prod.mk.injEq] at h; rw [h.1]; exact ⟨by simp; omega, fun x hx => absurd hx (by simp)⟩
            | false => simp only [Bool.false_eq_true, if_false, Prod.mk.injEq] at h; rw [h.1]; exact ⟨ho, HO32.out⟩
          have HO1 := Aside0.mk ho1.2; have ho1l := ho1.1; have hdb := Oa.dec_bot p.f0 HFP.out.1; obtain ⟨D, hD⟩ : ∃ D, D = decU p.f0 := ⟨_, rfl⟩; rw [← hD] at hst hdl hdb; have HDD := Aside0.mk hD; have HST2 := Aside0.mk hst; have HDB := Aside0.mk (show ∀ x ∈ D, I32 x from fun x hx => (hdb x hx).2); obtain ⟨Ao, co, rfl, hco, -⟩ := S3.out.reads 1 rfl; obtain ⟨m, hm⟩ : ∃ m, m = o1.length := ⟨_, rfl⟩; have HM := Aside0.mk hm; (have hml : (m : Int) ≤ lim := by omega); rw [← hm] at S3; have hDl : D.length ≤ 3 := hdl; obtain ⟨-, hp1, hp2, hp3, hp4⟩ := HFP.out; clear hst ho1 hdb hD hm HST HR1 ho ho1l hout hdl; obtain ⟨o2, ho2⟩ : ∃ o2, o2 = o1 ++ D := ⟨_, rfl⟩; have HO2 := Aside0.mk ho2; clear ho2; go_upto_region 8 with (fail); go_cut [] (fun wd => ∃ ov2 : Value, Aside0 (Ls w0 g gd lim cl ad n c ps M o2 a1 e 0 out1 u6 ov2 pb p wd))
          case first =>
            have HPB := Aside0.mk (S3.out.blk (M.length + 4) (at4 _ _ _ _ _ _ _)).1; refine wp_region_held_drew (S := fun W => W.heap[pb]? = some (.cells #[.int .i32 p.f0, .int .i64 p.f1, .int .i64 p.f2] TP (0, 0))) (by kernel_rfl) HPB.out (fun hS => ?_); have S4 := Aside0.mk (S3.out.later ((Drawn0.refl wc).step 1).below); refine wpAnyH_take (i := 0) (oi := { dst := some 39, op := _, type := _, pos := _, after := _, guard := _ }) (v := .pointer (some ⟨g, 0, none⟩)) rfl (by kernel_rfl) (by kernel_rfl) (by kernel_rfl) (fun _ _ _ h => h) (Or.inl ⟨by rfl, fun W hW => ?_⟩) hS ?_
            · (go_simp)
            (try simp only [Act.put, List.setIfInBounds_toArray, List.set_cons_zero, List.set_cons_succ]); refine wpAnyH_take (i := 1) (oi := { dst := some 40, op := _, type := _, pos := _, after := _, guard := _ }) (v := .pointer (some ⟨g, 0, none⟩)) rfl (by kernel_rfl) (by kernel_rfl) (by kernel_rfl) (fun _ _ _ h => h) (Or.inl ⟨by rfl, fun W hW => ?_⟩) hS ?_
            · (go_simp)
            (try simp only [Act.put, List.setIfInBounds_toArray, List.set_cons_zero, List.set_cons_succ]); refine wpAnyH_take (i := 2) (oi := { dst := some 41, op := _, type := _, pos := _, after := _, guard := _ }) (v := .pointer (some ⟨g, 0, none⟩)) rfl (by kernel_rfl) (by kernel_rfl) (by kernel_rfl) (fun _ _ _ h => h) (Or.inl ⟨by rfl, fun W hW => ?_⟩) hS ?_
            · (go_simp)
            (try simp only [Act.put, List.setIfInBounds_toArray, List.set_cons_zero, List.set_cons_succ]); refine wpAnyH_take (i := 3) (oi := { dst := some 42, op := _, type := _, pos := _, after := _, guard := _ }) (v := .pointer (some ⟨g, 2, none⟩)) rfl (by kernel_rfl) (by kernel_rfl) (by kernel_rfl) (fun _ _ _ h => h) (Or.inl ⟨by rfl, fun W hW => ?_⟩) hS ?_
            · (go_simp)
            (try simp only [Act.put, List.setIfInBounds_toArray, List.set_cons_zero, List.set_cons_succ]); refine wpAnyH_take (i := 5) (oi := { dst := some 44, op := _, type := _, pos := _, after := _, guard := _ }) (v := .pointer (some ⟨pb, 0, none⟩)) rfl (by kernel_rfl) (by kernel_rfl) (by kernel_rfl) (fun _ _ _ h => h) (Or.inl ⟨by rfl, fun W hW => ?_⟩) hS ?_
            · (go_simp)
            (try simp only [Act.put, List.setIfInBounds_toArray, List.set_cons_zero, List.set_cons_succ]); refine wpAnyH_take (i := 6) (oi := { dst := some 45, op := _, type := _, pos := _, after := _, guard := _ }) (v := .int .i32 p.f0) rfl (by kernel_rfl) (by kernel_rfl) (by kernel_rfl) (fun _ _ _ h => h) (Or.inl ⟨by rfl, fun W hW => ?_⟩) hS ?_
            · (have hcell := blk_cell hW 0; go_simp)
            (try simp only [Act.put, List.setIfInBounds_toArray, List.set_cons_zero, List.set_cons_succ]); refine wpAnyH_ready (rs := [4, 7]) (by kernel_rfl) (by simp) ?_; refine AllReadyH.cons (o := { dst := some 43, op := _, type := _, pos := _, after := _, guard := _ }) rfl (fun K hK => ?_) (AllReadyH.cons (o := { dst := some 46, op := _, type := _, pos := _, after := _, guard := _ }) rfl (fun K hK => ?_) AllReadyH.nil)
            · have c2 := blk_cell (S3.out.blk 0 rfl).1 2; simp only [segCells] at c2; go_simp; refine hK.out _ _ hS (fun hS2 => ?_); clear hK K hS2 c2; (try simp only [Act.put, List.setIfInBounds_toArray, List.set_cons_zero, List.set_cons_succ]); refine wpAnyH_ready (rs := [7]) (by kernel_rfl) (by simp) ?_; refine AllReadyH.cons (o := { dst := some 46, op := _, type := _, pos := _, after := _, guard := _ }) rfl (fun K hK => ?_) AllReadyH.nil; go_simp
              (go_at_call 57)
              refine (DecG _ (HG.out.below S4.out.below) p.f0 HFP.out.1).mono ?_; rintro E w4 ⟨v4, rfl, q1, q2⟩; rw [← HDD.out] at q1
              have S5 := Aside0.mk (show Sep w0 (blkT g (segCells gd lim (.slice Ao m co) a1 e cl 0) TS :: rowT K3 T3 w0.heap.size (.slice Ao m co) o1 :: rowT kP TP w0.heap.size (.slice (some ad) n c) ps :: (M ++ rowT kG TG w0.heap.size u6 out1 :: blkT pb #[.int .i32 p.f0, .int .i64 p.f1, .int .i64 p.f2] TP :: [rowT K3 T3 w0.heap.size v4 D])) w4 from by
                have h := S4.out.newR q1 q2; simp only [List.cons_append, List.append_assoc, List.nil_append] at h
                exact h)
              obtain ⟨A4, c4, rfl⟩ := Kd.R_slice q1; have HPB4 := Aside0.mk (S5.out.blk (M.length + 4) (at4 _ _ _ _ _ _ _)).1; clear q1 q2 S4; go_wp2_with fail; refine hK.out _ _ HPB4.out (fun hS2 => ?_); clear hK K hS; have hS := hS2; clear hS2; (try simp only [Act.put, List.setIfInBounds_toArray, List.set_cons_zero, List.set_cons_succ]); refine wpAnyH_ready (rs := [8]) (by kernel_rfl) (by simp) ?_; refine AllReadyH.cons (o := { dst := some 47, op := _, type := _, pos := _, after := _, guard := _ }) rfl (fun K hK => ?_) AllReadyH.nil; obtain ⟨ok, hR, hf, hN⟩ := Sep.row (d := K3) (e := T3) (base := w0.heap.size) (v := .slice Ao m co) (xs := o1) S5.out 1 rfl; have hC4 := (Sep.rows (d := K3) (e := T3) (base := w0.heap.size) (A := A4) (m := D.length) (c := c4) (xs := D) S5.out (M.length + 5) (at5 _ _ _ _ _ _ _ _)).2.2; refine Kd.R_append_rows_step K3 (Rr := K3.K _) (w0 := w0) w0.heap.size (by rfl) (.tmp 43) (.tmp 46) 42 T3 (.int .i32 0) 4 rfl Tryd.underlying42 info21 rfl (by decide) (by decide) (.slice Ao m co) o1 D A4 D.length c4 ok (fun _ => False) rfl rfl hR hC4 (fun _ _ h => h) (fun _ h => h.elim) hf S5.out.below S5.out.below.size (by have := HM.out; omega) (fun v1 w5 ho hb hg hat => ?_); have hS6 := hN v1 w5 _ ho hg; rw [← HO2.out] at hS6; have S6 := Aside0.mk hS6; obtain ⟨A6, c6, rfl, hc6, -⟩ := S6.out.reads 1 rfl; obtain ⟨q6, hq6⟩ : ∃ q6, q6 = o2.length := ⟨_, rfl⟩; rw [← hq6] at S6 ⊢; have HPB5 := Aside0.mk (Sep.blk (g := pb) (cells := #[.int .i32 p.f0, .int .i64 p.f1, .int .i64 p.f2]) (t := TP) S6.out (M.length + 4) (at4 _ _ _ _ _ _ _)).1; clear hR hf hN ho hb hg hat hC4 S5 HPB4 hS6 hq6 hc6; refine hK.out _ _ HPB5.out (fun hS2 => ?_); clear hK K hS; have hS := hS2; clear hS2; (try simp only [Act.put, List.setIfInBounds_toArray, List.set_cons_zero, List.set_cons_succ]); refine wpAnyH_take (i := 9) (oi := { dst := some 48, op := _, type := _, pos := _, after := _, guard := _ }) (v := .pointer (some ⟨g, 0, none⟩)) rfl (by kernel_rfl) (by kernel_rfl) (by kernel_rfl) (fun _ _ _ h => h) (Or.inl ⟨by rfl, fun W hW => ?_⟩) hS ?_
              · (go_simp)
              (try simp only [Act.put, List.setIfInBounds_toArray, List.set_cons_zero, List.set_cons_succ]); refine wpAnyH_take (i := 10) (oi := { dst := some 49, op := _, type := _, pos := _, after := _, guard := _ }) (v := .pointer (some ⟨g, 2, none⟩)) rfl (by kernel_rfl) (by kernel_rfl) (by kernel_rfl) (fun _ _ _ h => h) (Or.inl ⟨by rfl, fun W hW => ?_⟩) hS ?_
              · (go_simp)
              (try simp only [Act.put, List.setIfInBounds_toArray, List.set_cons_zero, List.set_cons_succ]); have c2 := blk_cell (Sep.blk (g := g) (cells := segCells gd lim (.slice Ao m co) a1 e cl 0) (t := TS) S6.out 0 rfl).1 2; have f2 := blk_frozen (Sep.blk (g := g) (cells := segCells gd lim (.slice Ao m co) a1 e cl 0) (t := TS) S6.out 0 rfl).1 2; simp only [segCells] at c2
              have S7 := Aside0.mk (show Ls w0 g gd lim cl ad n c ps M o2 a1 e 0 out1 u6 (.slice A6 q6 c6) pb p (w5.setCell ⟨g, 2, none⟩ (.slice A6 q6 c6)) from by
                have h := (Sep.blk_set (g := g) (cells := segCells gd lim (.slice Ao m co) a1 e cl 0) (t := TS) (cells' := segCells gd lim (.slice A6 q6 c6) a1 e cl 0) S6.out 0 rfl 2 (.slice A6 q6 c6) rfl).head (M.length + 5)
                exact (congrArg (fun l => Sep w0 l _) (take5 _ _ _ M _ _ _)).mp h)
              have HPB6 := Aside0.mk (S7.out.blk (M.length + 4) (at4 _ _ _ _ _ _ _)).1; refine wpAnyH_ready (rs := [11]) (by kernel_rfl) (by simp) ?_; refine AllReadyH.cons (o := { dst := none, op := _, type := _, pos := _, after := _, guard := _ }) rfl (fun K hK => ?_) AllReadyH.nil; go_simp; refine hK.out _ _ HPB6.out (fun hS2 => ?_); clear hK K hS hS2 c2 f2; refine wpAnyH_done (by kernel_rfl) ?_ _; go_wp2; go_meet
              case rel => exact ⟨_, S7⟩
            · go_simp
              (go_at_call 57)
              refine (DecG _ (HG.out.below S4.out.below) p.f0 HFP.out.1).mono ?_; rintro E w4 ⟨v4, rfl, q1, q2⟩; rw [← HDD.out] at q1
              have S5 := Aside0.mk (show Sep w0 (blkT g (segCells gd lim (.slice Ao m co) a1 e cl 0) TS :: rowT K3 T3 w0.heap.size (.slice Ao m co) o1 :: rowT kP TP w0.heap.size (.slice (some ad) n c) ps :: (M ++ rowT kG TG w0.heap.size u6 out1 :: blkT pb #[.int .i32 p.f0, .int .i64 p.f1, .int .i64 p.f2] TP :: [rowT K3 T3 w0.heap.size v4 D])) w4 from by
                have h := S4.out.newR q1 q2; simp only [List.cons_append, List.append_assoc, List.nil_append] at h
                exact h)
              obtain ⟨A4, c4, rfl⟩ := Kd.R_slice q1; have HPB4 := Aside0.mk (S5.out.blk (M.length + 4) (at4 _ _ _ _ _ _ _)).1; clear q1 q2 S4; go_wp2_with fail; refine hK.out _ _ HPB4.out (fun hS2 => ?_); clear hK K hS; have hS := hS2; clear hS2; (try simp only [Act.put, List.setIfInBounds_toArray, List.set_cons_zero, List.set_cons_succ]); have c2 := blk_cell (Sep.blk (g := g) (cells := segCells gd lim (.slice Ao m co) a1 e cl 0) (t := TS) S5.out 0 rfl).1 2; simp only [segCells] at c2; refine wpAnyH_ready (rs := [4]) (by kernel_rfl) (by simp) ?_; refine AllReadyH.cons (o := { dst := some 43, op := _, type := _, pos := _, after := _, guard := _ }) rfl (fun K hK => ?_) AllReadyH.nil; go_simp; refine hK.out _ _ hS (fun hS2 => ?_); clear hK K hS2 c2; (try simp only [Act.put, List.setIfInBounds_toArray, List.set_cons_zero, List.set_cons_succ]); refine wpAnyH_ready (rs := [8]) (by kernel_rfl) (by simp) ?_; refine AllReadyH.cons (o := { dst := some 47, op := _, type := _, pos := _, after := _, guard := _ }) rfl (fun K hK => ?_) AllReadyH.nil; obtain ⟨ok, hR, hf, hN⟩ := Sep.row (d := K3) (e := T3) (base := w0.heap.size) (v := .slice Ao m co) (xs := o1) S5.out 1 rfl; have hC4 := (Sep.rows (d := K3) (e := T3) (base := w0.heap.size) (A := A4) (m := D.length) (c := c4) (xs := D) S5.out (M.length + 5) (at5 _ _ _ _ _ _ _ _)).2.2; refine Kd.R_append_rows_step K3 (Rr := K3.K _) (w0 := w0) w0.heap.size (by rfl) (.tmp 43) (.tmp 46) 42 T3 (.int .i32 0) 4 rfl Tryd.underlying42 info21 rfl (by decide) (by decide) (.slice Ao m co) o1 D A4 D.length c4 ok (fun _ => False) rfl rfl hR hC4 (fun _ _ h => h) (fun _ h => h.elim) hf S5.out.below S5.out.below.size (by have := HM.out; omega) (fun v1 w5 ho hb hg hat => ?_); have hS6 := hN v1 w5 _ ho hg; rw [← HO2.out] at hS6; have S6 := Aside0.mk hS6; obtain ⟨A6, c6, rfl, hc6, -⟩ := S6.out.reads 1 rfl; obtain ⟨q6, hq6⟩ : ∃ q6, q6 = o2.length := ⟨_, rfl⟩; rw [← hq6] at S6 ⊢; have HPB5 := Aside0.mk (Sep.blk (g := pb) (cells := #[.int .i32 p.f0, .int .i64 p.f1, .int .i64 p.f2]) (t := TP) S6.out (M.length + 4) (at4 _ _ _ _ _ _ _)).1; clear hR hf hN ho hb hg hat hC4 S5 HPB4 hS6 hq6 hc6; refine hK.out _ _ HPB5.out (fun hS2 => ?_); clear hK K hS; have hS := hS2; clear hS2; (try simp only [Act.put, List.setIfInBounds_toArray, List.set_cons_zero, List.set_cons_succ]); refine wpAnyH_take (i := 9) (oi := { dst := some 48, op := _, type := _, pos := _, after := _, guard := _ }) (v := .pointer (some ⟨g, 0, none⟩)) rfl (by kernel_rfl) (by kernel_rfl) (by kernel_rfl) (fun _ _ _ h => h) (Or.inl ⟨by rfl, fun W hW => ?_⟩) hS ?_
              · (go_simp)
              (try simp only [Act.put, List.setIfInBounds_toArray, List.set_cons_zero, List.set_cons_succ]); refine wpAnyH_take (i := 10) (oi := { dst := some 49, op := _, type := _, pos := _, after := _, guard := _ }) (v := .pointer (some ⟨g, 2, none⟩)) rfl (by kernel_rfl) (by kernel_rfl) (by kernel_rfl) (fun _ _ _ h => h) (Or.inl ⟨by rfl, fun W hW => ?_⟩) hS ?_
              · (go_simp)
              (try simp only [Act.put, List.setIfInBounds_toArray, List.set_cons_zero, List.set_cons_succ]); have c2 := blk_cell (Sep.blk (g := g) (cells := segCells gd lim (.slice Ao m co) a1 e cl 0) (t := TS) S6.out 0 rfl).1 2; have f2 := blk_frozen (Sep.blk (g := g) (cells := segCells gd lim (.slice Ao m co) a1 e cl 0) (t := TS) S6.out 0 rfl).1 2; simp only [segCells] at c2
              have S7 := Aside0.mk (show Ls w0 g gd lim cl ad n c ps M o2 a1 e 0 out1 u6 (.slice A6 q6 c6) pb p (w5.setCell ⟨g, 2, none⟩ (.slice A6 q6 c6)) from by
                have h := (Sep.blk_set (g := g) (cells := segCells gd lim (.slice Ao m co) a1 e cl 0) (t := TS) (cells' := segCells gd lim (.slice A6 q6 c6) a1 e cl 0) S6.out 0 rfl 2 (.slice A6 q6 c6) rfl).head (M.length + 5)
                exact (congrArg (fun l => Sep w0 l _) (take5 _ _ _ M _ _ _)).mp h)
              have HPB6 := Aside0.mk (S7.out.blk (M.length + 4) (at4 _ _ _ _ _ _ _)).1; refine wpAnyH_ready (rs := [11]) (by kernel_rfl) (by simp) ?_; refine AllReadyH.cons (o := { dst := none, op := _, type := _, pos := _, after := _, guard := _ }) rfl (fun K hK => ?_) AllReadyH.nil; go_simp; refine hK.out _ _ HPB6.out (fun hS2 => ?_); clear hK K hS hS2 c2 f2; refine wpAnyH_done (by kernel_rfl) ?_ _; go_wp2; go_meet
              case rel => exact ⟨_, S7⟩
          case rest =>
            clear S3; obtain ⟨ov2, S4⟩ := hcut; obtain ⟨A2, c2, rfl, -, -⟩ := S4.out.reads 1 rfl; obtain ⟨q, hq⟩ : ∃ q, q = o2.length := ⟨_, rfl⟩; have HQ := Aside0.mk hq; rw [← hq] at S4; clear hq; have z1 := blk_cell (S4.out.blk (M.length + 4) (at4 _ _ _ _ _ _ _)).1 1; have z2 := blk_cell (S4.out.blk (M.length + 4) (at4 _ _ _ _ _ _ _)).1 2; have z4 := blk_cell (S4.out.blk 0 rfl).1 4; have f4 := blk_frozen (S4.out.blk 0 rfl).1 4; simp only [segCells] at z4; go_upto_region 10 with (fail); have S5 := Aside0.mk (show Ls w0 g gd lim cl ad n c ps M o2 a1 (p.f1 + p.f2) 0 out1 u6 (.slice A2 q c2) pb p (wc.setCell ⟨g, 4, none⟩ (.int .i64 (p.f1 + p.f2))) from S4.out.blk_set 0 rfl 4 (.int .i64 (p.f1 + p.f2)) rfl); clear z1 z2 z4 f4 S4; generalize (wc.setCell ⟨g, 4, none⟩ (.int .i64 (p.f1 + p.f2))) = w6 at S5 ⊢; have c1 := blk_cell (S5.out.blk 0 rfl).1 1; have c2' := blk_cell (S5.out.blk 0 rfl).1 2; simp only [segCells] at c1 c2'; by_cases hlm : lim < (q : Int)
            · have hd3 : decide (lim < (q : Int)) = true := decide_eq_true hlm; go_quiet (fail); have S6 := Aside0.mk (S5.out.later ((Drawn0.refl w6).step nq).below); clear c1 c2' S5; generalize w6.drewN nq = w7 at S6 ⊢; have c6 := blk_cell (S6.out.blk 0 rfl).1 6; have f6 := blk_frozen (S6.out.blk 0 rfl).1 6; have c2' := blk_cell (S6.out.blk 0 rfl).1 2; have f2' := blk_frozen (S6.out.blk 0 rfl).1 2; simp only [segCells] at c6 c2'; go_upto_region 12 with (fail)
              have S7 := Aside0.mk (show Ls w0 g gd lim cl ad n c ps M [] a1 (p.f1 + p.f2) 6 out1 u6 (.slice none 0 0) pb p ((w7.setCell ⟨g, 6, none⟩ (.int .i64 6)).setCell ⟨g, 2, none⟩ (.slice none 0 0)) from
                (Sep.blk_set (g := g) (cells := segCells gd lim (.slice A2 q c2) a1 (p.f1 + p.f2) cl 6) (t := TS) (cells' := segCells gd lim (.slice none 0 0) a1 (p.f1 + p.f2) cl 6) (S6.out.blk_set 0 rfl 6 (.int .i64 6) rfl) 0 rfl 2 (.slice none 0 0) rfl).let_go K3 T3 w0.heap.size 1 rfl)
              clear c6 f6 c2' f2' S6; generalize ((w7.setCell ⟨g, 6, none⟩ (.int .i64 6)).setCell ⟨g, 2, none⟩ (.slice none 0 0)) = w8 at S7 ⊢; have c6 := blk_cell (S7.out.blk 0 rfl).1 6; simp only [segCells] at c6; go_quiet (fail); have S8 := Aside0.mk (S7.out.later ((Drawn0.refl w8).step nq).below); (have hfin : R = (out1, [], a1, p.f1 + p.f2, true) := by rw [HST2.out, if_pos (by rw [← HO2.out, ← HQ.out]; exact hlm)]); have HF := Aside0.mk hfin; clear hfin c6 S7; go_wp2; go_ret2; rw [HF.out]; have h := (congrArg (fun l => Sep w0 l _) (take4 _ _ _ M _ _)).mp (S8.out.head (M.length + 4)); exact ⟨_, rfl, _, h⟩
            · have hd3 : decide (lim < (q : Int)) = false := decide_eq_false hlm; go_quiet (fail); have S6 := Aside0.mk (S5.out.later ((Drawn0.refl w6).step nq).below); clear c1 c2' S5; generalize w6.drewN nq = w7 at S6 ⊢; (have hfin : R = catT out1 (tk lim (ps.drop (i + 1)) o2 a1 (p.f1 + p.f2)) := by rw [HST2.out, if_neg (by rw [← HO2.out, ← HQ.out]; exact hlm), HO2.out]); have HF := Aside0.mk hfin; clear hfin; go_wp2; go_roundw
              case rel => exact ⟨i + 1, o2, a1, p.f1 + p.f2, out1, by go_num, by omega, hout1, by rw [← HQ.out]; omega, ⟨fun x hx => by rw [HO2.out] at hx; exact (List.mem_append.1 hx).elim (HO1.out x) (HDB.out x)⟩, HF, ⟨_, (congrArg (fun l => Sep w0 l _) (take4 _ _ _ M _ _)).mp (S6.out.head (M.length + 4))⟩⟩
              case measure => simp [intOf]; omega
    · have hd : decide ((i : Int) < (n : Int)) = false := decide_eq_false (by omega); have hd2 : decide (i < n) = false := decide_eq_false hlt
      have hfin : R = (out, o, a, e, false) := by
        have h := HR.out; rw [List.drop_eq_nil_of_le (by have := HN.out; omega)] at h; rw [h]; simp [catT, tk]
      have HF := Aside0.mk hfin; clear hfin HR; go_wp2; go_ret2; rw [HF.out]; exact ⟨_, rfl, HS.out⟩
end Go.Proofs.YthffpkdadffinaaDoor.Sgb
namespace Go.Proofs.YthffpkdadffinaaDoor.Sgc
set_option linter.unusedVariables false
set_option linter.unusedSimpArgs false
open Go.Proofs.YthffpkdadffinaaDoor.Vd (decU)
open Go.Proofs.YthffpkdadffinaaDoor.Ve (opn)
open Go.Proofs.YthffpkdadffinaaDoor.Fr (K3 T3)
open Go.Proofs.YthffpkdadffinaaDoor.Ux (Bytes one1 dc rest1 full dec)
open Go.Proofs.YthffpkdadffinaaDoor.Dc (decT)
open Go.RowKit YthffpkdadffinaaDoorW.PrintWords Hp Fm X Va Oa Vp0 Cn Sga Sgb
section
variable {w : World} {g gd : Nat} {lim a e er : Int} {ov : Value} {cl : Bool}
def ans (cl : Bool) (er : Int) : Int := if er = 0 then (if cl = true then 8 else 0) else er
theorem EndR (hb : w.heap[g]? = some (.cells (segCells gd lim ov a e cl er) TS (0, 0))) : Calls Tryd.prog 43 #[.pointer (some ⟨g, 0, none⟩)] w fun E w' => E = .returned (.int .i64 (ans cl er)) ∧ w = w' := by
  have c5 := blk_cell hb 5; have c6 := blk_cell hb 6; simp only [segCells] at c5 c6; clear hb; by_cases h : er = 0
  · subst h
    cases cl with
    | true =>
      go_enter Tryd.func43, Tryd.ntmps43; go_wp2; go_ret; exact ⟨rfl, rfl⟩
    | false =>
      go_enter Tryd.func43, Tryd.ntmps43; go_wp2; go_ret; exact ⟨rfl, rfl⟩
  · have h1 : (er != 0) = true := bne_iff_ne.2 h; have h2 : (er == 0) = false := beq_eq_false_iff_ne.2 h; have HA := Aside0.mk (show ans cl er = er from if_neg h); clear h; rw [HA.out]; go_enter Tryd.func43, Tryd.ntmps43; go_wp2; go_ret; exact ⟨rfl, rfl⟩
end
theorem dec_fine : ∀ (k : Nat) (b : List Int) (p : Int), Bytes b → 0 ≤ p → p + b.length ≤ 4000000000000000 → ∀ y ∈ (dec k b p).1, fine y
  | 0, b, p, _, _, _, y, hy => by simp [dec] at hy
  | k + 1, [], p, _, _, _, y, hy => by simp [dec] at hy
  | k + 1, c :: t, p, hb, h0, h1, y, hy => by
    have hc := hb c (List.mem_cons_self ..); have hw := Ux.one1_width c t; rw [List.length_cons] at h1; simp only [dec] at hy; split at hy
    · simp at hy
    · rcases List.mem_cons.1 hy with rfl | hy
      · exact ⟨Ot.one1_32 c t hc, h0, by show p ≤ _; omega, by show 0 ≤ (one1 c t).2.1; omega, by show (one1 c t).2.1 ≤ _; omega⟩
      · refine dec_fine k _ _ (fun x hx => hb x (List.mem_of_mem_drop hx)) (by omega) ?_ y hy; rw [List.length_drop, List.length_cons]; omega
theorem rest_fine (b : List Int) (p : Int) (h0 : 0 ≤ p) (h1 : p + b.length ≤ 4000000000000000) : ∀ y ∈ rest1 b p, fine y := by
  intro y hy; unfold rest1 at hy; split at hy
  · simp at hy
  · rw [List.mem_singleton.1 hy]; exact ⟨by show -2147483648 ≤ (65533 : Int) ∧ (65533 : Int) ≤ 2147483647; decide, h0, by show p ≤ _; omega, by show (0 : Int) ≤ b.length; omega, by show (b.length : Int) ≤ _; omega⟩
theorem rot3 (a b c x : Th) (M : List Th) : (a :: b :: c :: (M ++ [x])).Perm (a :: b :: x :: c :: M) :=
  .cons a (.cons b ((List.perm_append_comm (l₁ := c :: M) (l₂ := [x]))))
theorem unrot3 (a b c x : Th) (M : List Th) : (a :: b :: x :: c :: M).Perm (a :: b :: c :: (M ++ [x])) := (rot3 a b c x M).symm
def Seg (w0 : World) (g gd : Nat) (lim : Int) (kept : List Int) (dat : Int) (dcl : Bool) (o : List Int) (a e : Int) (cl : Bool) (er : Int) (M : List Th) (w : World) : Prop :=
  ∃ ov, Sep w0 (blkT g (segCells gd lim ov a e cl er) TS :: rowT K3 T3 w0.heap.size ov o :: decT gd w0.heap.size kept dat dcl :: M) w
def WritePost (w0 : World) (g gd : Nat) (lim : Int) (kept : List Int) (dat : Int) (dcl cl : Bool) (M : List Th) (r : List SG × List Int × Int × Int × Bool) (E : Ending) (w' : World) : Prop :=
  ∃ outv, E = .returned (.tuple #[outv, .int .i64 (errOf r.2.2.2.2)]) ∧ Seg w0 g gd lim kept dat dcl r.2.1 r.2.2.1 r.2.2.2.1 cl (errOf r.2.2.2.2) (M ++ [rowT kG TG w0.heap.size outv r.1]) w'
set_option maxRecDepth 100000 in
set_option maxHeartbeats 4000000 in
theorem WriteOk (w0 : World) (hG : G w0) (w : World) (g gd : Nat) (lim : Int) (kept : List Int) (dat : Int) (o : List Int) (a e : Int) (M : List Th) (h : Seg w0 g gd lim kept dat false o a e false 0 M w)
    (A : Option Addr) (n c : Nat) (bs : List Int) (hb : KB.C w A n bs) (hB : Bytes (kept ++ bs)) (hlen : kept.length + n ≤ 100000000) (hat : 0 ≤ dat ∧ dat ≤ 1000000000000) (hlim : lim ≤ 50000000) (ho : (o.length : Int) ≤ lim) (ho32 : ∀ x ∈ o, I32 x)
    (pts : List SP) (kept' : List Int) (dat' : Int) (hp : dc (kept ++ bs) dat = (pts, kept', dat')) :
    Calls Tryd.prog 15 #[.pointer (some ⟨g, 0, none⟩), .slice A n c] w (WritePost w0 g gd lim kept' dat' false false M (tk lim pts o a e)) := by
  obtain ⟨ov, hS⟩ := h; have hbl := (hS.blk 0 rfl).1; have HE := Aside0.mk (EndR hbl); have c0 := blk_cell hbl 0; simp only [segCells] at c0; have hdl := Ux.dc_len (kept ++ bs) dat; have hn := (rdint hb).1
  have hf : ∀ p ∈ pts, fine p := by
    have := dec_fine (kept ++ bs).length (kept ++ bs) dat hB hat.1 (by rw [List.length_append]; omega); rw [show dec (kept ++ bs).length (kept ++ bs) dat = dc (kept ++ bs) dat from rfl, hp] at this; exact this
  have e1 := congrArg (fun q => q.1) hp; have e2 := congrArg (fun q => q.2.1) hp; have e3 := congrArg (fun q => q.2.2) hp; simp only at e1 e2 e3; rw [e1, e2] at hdl; (have hpl : pts.length ≤ 100000000 := by have := hdl.2.1; rw [List.length_append] at this; omega); have HW := Aside0.mk (Dc.WriteS hS 2 rfl A n c bs (rdint hb) hB (by omega) ⟨hat.1, by omega⟩); rw [e1, e2, e3] at HW; have HF := Aside0.mk hf; have HO := Aside0.mk ho32; obtain ⟨R, hR⟩ : ∃ R, R = tk lim pts o a e := ⟨_, rfl⟩; obtain ⟨q, hq⟩ : ∃ q, q = pts.length := ⟨_, rfl⟩; rw [← hq] at HW hpl; rw [← hR]; have HR := Aside0.mk hR; clear hS hbl hb hB hlen hat ho32 hp hdl hn hf e1 e2 e3 hR hq; go_enter Tryd.func15, Tryd.ntmps15; go_wp2_with (first | (go_at_call 43; go_must (refine HE.out.mono ?_; rintro E w1 ⟨rfl, rfl⟩)) | (go_at_call 45; go_must (refine HW.out.mono ?_; rintro E w2 ⟨A2, c2, rfl, p1⟩; have S2 := Aside0.mk (Sep.perm (show Sep w0 (blkT g (segCells gd lim ov a e false 0) TS :: rowT K3 T3 w0.heap.size ov o :: decT gd w0.heap.size kept' dat' false :: (M ++ [rowT kP TP w0.heap.size (.slice A2 q c2) pts])) w2 from p1) (rot3 _ _ _ _ _)); clear p1)) | (go_at_call 44; go_must (refine (TakeS w0 hG w2 g gd lim false A2 q c2 pts (decT gd w0.heap.size kept' dat' false :: M) o a e ov S2.out HF.out hpl hlim ho HO.out).mono ?_; rw [← HR.out]; rintro E w3 ⟨outv, rfl, ov3, p1⟩; have S3 := Aside0.mk (Sep.perm p1 (unrot3 _ _ _ _ _)); clear p1))); go_ret2
  exact ⟨outv, rfl, ov3, by
    have h := S3.out.init_ (blkT g (segCells gd lim ov3 R.2.2.1 R.2.2.2.1 false (errOf R.2.2.2.2)) TS :: rowT K3 T3 w0.heap.size ov3 R.2.1 :: decT gd w0.heap.size kept' dat' false :: (M ++ [rowT kG TG w0.heap.size outv R.1])) _ rfl
    exact h⟩
def fin (r : List SG × List Int × Int × Int × Bool) : List SG := if r.2.2.2.2 = true then r.1 else if r.2.1.isEmpty = true then r.1 else r.1 ++ [⟨txt r.2.1, r.2.2.1, r.2.2.2.1⟩]
def ClosePost (w0 : World) (g gd : Nat) (lim : Int) (dat : Int) (M : List Th) (r : List SG × List Int × Int × Int × Bool) (E : Ending) (w' : World) : Prop :=
  ∃ outv, E = .returned (.tuple #[outv, .int .i64 (errOf r.2.2.2.2)]) ∧ Seg w0 g gd lim [] dat true [] r.2.2.1 r.2.2.2.1 true (errOf r.2.2.2.2) (M ++ [rowT kG TG w0.heap.size outv (fin r)]) w'
theorem tk_open (lim : Int) (hlim : 0 ≤ lim) : ∀ (ps : List SP) (o : List Int) (a e : Int), (o.length : Int) ≤ lim → (∀ x ∈ o, I32 x) → (∀ p ∈ ps, fine p) → ((tk lim ps o a e).2.1.length : Int) ≤ lim ∧ (∀ x ∈ (tk lim ps o a e).2.1, I32 x) ∧ (tk lim ps o a e).1.length ≤ ps.length ∧ ((tk lim ps o a e).2.2.2.2 = true → (tk lim ps o a e).2.1 = [])
  | [], o, a, e, h1, h2, _ => ⟨h1, h2, Nat.le_refl _, fun h => by simp [tk] at h⟩
  | p :: ps, o, a, e, h1, h2, h3 => by
    have hp := h3 p (List.mem_cons_self ..); have hd := Oa.dec_bot p.f0 hp.1; (have ht := fun q hq => h3 q (List.mem_cons_of_mem _ hq)); rw [tk]; split
    · split
      · exact ⟨by simpa using hlim, by simp, by simp, fun _ => rfl⟩
      · have ih := tk_open lim hlim ps (decU p.f0) p.f1 (p.f1 + p.f2) (by omega) (fun x hx => (hd x hx).2) ht; exact ⟨ih.1, ih.2.1, by simp only [List.length_cons]; omega, ih.2.2.2⟩
    · split
      · exact ⟨by simpa using hlim, by simp, by simp, fun _ => rfl⟩
      · have ih := tk_open lim hlim ps (o ++ decU p.f0) a (p.f1 + p.f2) (by omega) (fun x hx => (List.mem_append.1 hx).elim (h2 x) (fun h => (hd x h).2)) ht; exact ⟨ih.1, ih.2.1, by simp only [List.length_cons]; omega, ih.2.2.2⟩
set_option maxRecDepth 100000 in
set_option maxHeartbeats 8000000 in
theorem CloseOk (w0 : World) (hG : G w0) (w : World) (g gd : Nat) (lim : Int) (kept : List Int) (dat : Int) (o : List Int) (a e : Int) (M : List Th) (h : Seg w0 g gd lim kept dat false o a e false 0 M w)
    (hlen : kept.length ≤ 100000000) (hat : 0 ≤ dat ∧ dat ≤ 1000000000000) (hlim0 : 0 ≤ lim) (hlim : lim ≤ 50000000) (ho : (o.length : Int) ≤ lim) (ho32 : ∀ x ∈ o, I32 x) :
    Calls Tryd.prog 20 #[.pointer (some ⟨g, 0, none⟩)] w (ClosePost w0 g gd lim dat M (tk lim (rest1 kept dat) o a e)) := by
  obtain ⟨ov, hS⟩ := h; have hbl := (hS.blk 0 rfl).1; have HE := Aside0.mk (EndR hbl); have c5 := blk_cell hbl 5; have f5 := blk_frozen hbl 5; simp only [segCells] at c5; have hf : ∀ p ∈ rest1 kept dat, fine p := rest_fine kept dat hat.1 (by omega); have hop := tk_open lim hlim0 (rest1 kept dat) o a e ho ho32 hf; (have hrl : (rest1 kept dat).length ≤ 1 := by unfold rest1; split <;> simp); obtain ⟨pts, hpts⟩ : ∃ pts, pts = rest1 kept dat := ⟨_, rfl⟩; rw [← hpts] at hf hop hrl ⊢; obtain ⟨R, hR⟩ : ∃ R, R = tk lim pts o a e := ⟨_, rfl⟩; rw [← hR] at hop ⊢; have S1 := Aside0.mk (show Sep w0 (blkT g (segCells gd lim ov a e true 0) TS :: rowT K3 T3 w0.heap.size ov o :: decT gd w0.heap.size kept dat false :: M) (w.setCell ⟨g, 5, none⟩ (.bool true)) from hS.blk_set 0 rfl 5 (.bool true) rfl); have c0 := blk_cell (S1.out.blk 0 rfl).1 0; simp only [segCells] at c0; have HW := Aside0.mk (Dc.CloseS S1.out 2 rfl); rw [← hpts] at HW; obtain ⟨q, hq⟩ : ∃ q, q = pts.length := ⟨_, rfl⟩; rw [← hq] at HW hrl hop; have HF := Aside0.mk hf; have HO := Aside0.mk ho32; have HR := Aside0.mk hR; have HOP := Aside0.mk hop; (have hq1 : q ≤ 100000000 := by omega); clear hS hbl hlen hat ho32 hf hR hq hpts hop S1; go_enter Tryd.func20, Tryd.ntmps20; go_upto_region 6 with (first | (go_at_call 43; go_must (refine HE.out.mono ?_; rintro E w1 ⟨rfl, rfl⟩)) | (go_at_call 50; go_must (refine HW.out.mono ?_; rintro E w2 ⟨A2, c2, rfl, p1⟩; have S2 := Aside0.mk (Sep.perm (show Sep w0 (blkT g (segCells gd lim ov a e true 0) TS :: rowT K3 T3 w0.heap.size ov o :: decT gd w0.heap.size [] dat true :: (M ++ [rowT kP TP w0.heap.size (.slice A2 q c2) pts])) w2 from p1) (rot3 _ _ _ _ _)); clear p1)) | (go_at_call 44; go_must (refine (TakeS w0 hG w2 g gd lim true A2 q c2 pts (decT gd w0.heap.size [] dat true :: M) o a e ov S2.out HF.out hq1 hlim ho HO.out).mono ?_; rw [← HR.out]; rintro E w3 ⟨outv, rfl, ov3, p1⟩; have S3 := Aside0.mk (Sep.perm p1 (unrot3 _ _ _ _ _)); clear p1))); obtain ⟨out, o', a', e', bad⟩ := R; have S4 := Aside0.mk (show Sep w0 (blkT g (segCells gd lim ov3 a' e' true (errOf bad)) TS :: rowT K3 T3 w0.heap.size ov3 o' :: decT gd w0.heap.size [] dat true :: (M ++ [rowT kG TG w0.heap.size outv out])) w3 from S3.out.init_ (blkT g (segCells gd lim ov3 a' e' true (errOf bad)) TS :: rowT K3 T3 w0.heap.size ov3 o' :: decT gd w0.heap.size [] dat true :: (M ++ [rowT kG TG w0.heap.size outv out])) _ rfl); clear S3 HR HW HE c0 c5 f5
  cases bad with
  | true =>
    have hb : o' = [] := HOP.out.2.2.2 rfl; subst hb; have h6 : errOf true = 6 := rfl; have HP := Aside0.mk (show ∀ E w', E = .returned (.tuple #[outv, .int .i64 6]) → w' = w3 → ClosePost w0 g gd lim dat M (out, [], a', e', true) E w' from fun E w' hE hw => by subst hE hw; exact ⟨outv, rfl, ov3, S4.out⟩); go_wp2; go_ret2; exact HP.out _ _ rfl rfl
  | false =>
    obtain ⟨A3, c3, rfl, hc3, hC3⟩ := S4.out.reads 1 rfl; obtain ⟨m, hm⟩ : ∃ m, m = o'.length := ⟨_, rfl⟩; rw [← hm] at S4 hc3 hC3; have c2' := blk_cell (S4.out.blk 0 rfl).1 2; simp only [segCells] at c2'; have HM := Aside0.mk hm; have HC3 := Aside0.mk hC3; have HP1 := Aside0.mk HOP.out.2.1; (have hml : (m : Int) ≤ lim := by rw [hm]; exact HOP.out.1); have hol : out.length ≤ q := HOP.out.2.2.1; clear hm hC3 HOP; rcases Nat.eq_zero_or_pos m with h0 | h0
    · subst h0; have hb : o' = [] := List.eq_nil_of_length_eq_zero HM.out.symm; subst hb; have hd3 : decide ((0 : Int) > 0) = false := rfl; have HP := Aside0.mk (show ∀ E w', E = .returned (.tuple #[outv, .int .i64 0]) → w' = w3 → ClosePost w0 g gd lim dat M (out, [], a', e', false) E w' from fun E w' hE hw => by subst hE hw; exact ⟨outv, rfl, _, S4.out⟩); go_wp2; go_ret2; exact HP.out _ _ rfl rfl
    · have hd3 : decide (0 < m) = true := decide_eq_true h0
      have hne : o'.isEmpty = false := by
        cases o' with
        | nil => exact absurd HM.out (by simp; omega)
        | cons x t => rfl
      have HNE := Aside0.mk hne; have HWh := Aside0.mk (WholeP w3 (hG.below S4.out.below) g gd lim a' e' 0 true A3 m c3 o' (S4.out.blk 0 rfl).1 HC3.out HM.out hc3 HP1.out (by omega)); clear hne c2'; have c2' := blk_cell (S4.out.blk 0 rfl).1 2; simp only [segCells] at c2'; go_upto_region 8 with (first | (go_at_call 51; go_must (refine HWh.out.mono ?_; rintro E w4 ⟨rfl, p1⟩; have S5 := Aside0.mk (S4.out.later p1); clear p1; obtain ⟨ok1, hR1, hf1, hN1⟩ := Sep.row (d := kG) (e := TG) (base := w0.heap.size) (v := outv) (xs := out) S5.out (M.length + 3) (at3 _ _ _ _ _ _); have HR1 := Aside0.mk hR1; have HF1 := Aside0.mk hf1; have HN1 := Aside0.mk hN1; have HB3 := Aside0.mk S5.out.below; clear hR1 hf1 hN1)) | (at_builtin; go_must (refine Kd.R_append kG (w0 := w0) w0.heap.size rfl (.tmp 35) (.tmp 38) 29 TG (.agg #[.string ⟨#[]⟩, .int .i64 0, .int .i64 0]) 32 rfl Tryd.underlying29 info67 rfl (by decide) (by decide) outv out (⟨txt o', a', e'⟩ : SG) [.string (txt o'), .int .i64 a', .int .i64 e'] ok1 (fun _ => False) rfl rfl ?aP (fun _ hk => hk.elim) ?aF ?aO ?aB ?aS ?aL ?_; (case aP => exact k67_mkM _ _ _ ⟨txt o', a', e'⟩); (case aB => exact HB3.out); (case aF => exact HF1.out); (case aO => exact HR1.out); (case aS => exact HB3.out.size); (case aL => omega); intro v6 w5 ho hb hg hat; have S6 := Aside0.mk (show Sep w0 (blkT g (segCells gd lim (.slice A3 m c3) a' e' true 0) TS :: rowT K3 T3 w0.heap.size (.slice A3 m c3) o' :: decT gd w0.heap.size [] dat true :: (M ++ [rowT kG TG w0.heap.size v6 (out ++ [⟨txt o', a', e'⟩])])) w5 from (by have h := HN1.out v6 w5 _ ho hg; rw [set3] at h; exact h)); clear ho hb hg hat HR1 HF1 HN1 S5))); clear c2' S4; have c2' := blk_cell (S6.out.blk 0 rfl).1 2; have f2' := blk_frozen (S6.out.blk 0 rfl).1 2; simp only [segCells] at c2'; have S7 := Aside0.mk (show Sep w0 (blkT g (segCells gd lim (.slice none 0 0) a' e' true 0) TS :: rowT K3 T3 w0.heap.size (.slice none 0 0) [] :: decT gd w0.heap.size [] dat true :: (M ++ [rowT kG TG w0.heap.size v6 (out ++ [⟨txt o', a', e'⟩])])) (w5.setCell ⟨g, 2, none⟩ (.slice none 0 0)) from (S6.out.blk_set 0 rfl 2 (.slice none 0 0) rfl).let_go K3 T3 w0.heap.size 1 rfl); have HFN := Aside0.mk (show fin (out, o', a', e', false) = out ++ [⟨txt o', a', e'⟩] by unfold fin; simp [HNE.out]); go_wp2; go_ret2; unfold ClosePost; rw [HFN.out]; exact ⟨v6, rfl, _, S7.out⟩
end Go.Proofs.YthffpkdadffinaaDoor.Sgc
namespace Go.Proofs.YthffpkdadffinaaDoor.Sgd
set_option linter.unusedVariables false
set_option linter.unusedSimpArgs false
open Go.Proofs.YthffpkdadffinaaDoor.Vd (decU)
open Go.Proofs.YthffpkdadffinaaDoor.Ve (opn)
open Go.Proofs.YthffpkdadffinaaDoor.Fr (K3 T3)
open Go.Proofs.YthffpkdadffinaaDoor.Ux (Bytes one1 dc rest1 full dec)
open Go.Proofs.YthffpkdadffinaaDoor.Dc (decT)
open Go.RowKit YthffpkdadffinaaDoorW.PrintWords Hp Fm X Va Oa Vp0 Cn Sga Sgb Sgc
theorem tk_app (lim : Int) : ∀ (ps qs : List SP) (o : List Int) (a e : Int), tk lim (ps ++ qs) o a e = if (tk lim ps o a e).2.2.2.2 = true then tk lim ps o a e else catT (tk lim ps o a e).1 (tk lim qs (tk lim ps o a e).2.1 (tk lim ps o a e).2.2.1 (tk lim ps o a e).2.2.2.1)
  | [], qs, o, a, e => by simp [tk, catT]
  | p :: ps, qs, o, a, e => by
    rw [List.cons_append, tk, tk]; split
    · split
      · simp
      · rw [tk_app lim ps qs]; by_cases hb : (tk lim ps (decU p.f0) p.f1 (p.f1 + p.f2)).2.2.2.2 = true
        · rw [if_pos hb, if_pos hb]
        · rw [if_neg hb, if_neg hb]; simp [catT]
    · split
      · simp
      · exact tk_app lim ps qs _ _ _
theorem fin_cat (x : List SG) (r : List SG × List Int × Int × Int × Bool) : fin (catT x r) = x ++ fin r := by
  unfold fin catT; simp only; split
  · rfl
  · split
    · rfl
    · rw [List.append_assoc]
theorem tk_nobad (lim : Int) : ∀ (ps : List SP) (o : List Int) (a e : Int), (∀ p ∈ ps, fine p) → (o.length : Int) + 3 * ps.length ≤ lim → (tk lim ps o a e).2.2.2.2 = false
  | [], o, a, e, _, _ => rfl
  | p :: ps, o, a, e, hf, h => by
    have hd := Oa.dec_len3 p.f0 (hf p (List.mem_cons_self ..)).1; (have ht := fun q hq => hf q (List.mem_cons_of_mem _ hq)); rw [List.length_cons] at h; (have ho : (0 : Int) ≤ o.length := by omega); rw [tk]; split
    · rw [if_neg (by omega)]; exact tk_nobad lim ps _ _ _ ht (by omega)
    · rw [if_neg (by rw [List.length_append]; omega)]; exact tk_nobad lim ps _ _ _ ht (by rw [List.length_append]; omega)
def segs (lim : Int) (b : List Int) : List SG × List Int × Int × Int × Bool := tk lim (full b) [] 0 0
def splitF (lim : Int) (b : List Int) : List SG × Int := if lim < 1 ∨ lim > 64 then ([], 1) else (fin (segs lim b), errOf (segs lim b).2.2.2.2)
section
variable {w0 w : World} {L : List Th}
theorem NewNo (w : World) (lim : Int) (h : lim < 1 ∨ lim > 64) : Calls Tryd.prog 14 #[.int .i64 lim] w fun E w' => E = .returned (.tuple #[.pointer none, .int .i64 1]) ∧ w = w' := by
  by_cases h1 : lim < 1
  · have hd : decide (lim < 1) = true := decide_eq_true h1; go_enter Tryd.func14, Tryd.ntmps14; go_wp2; go_ret2; exact ⟨rfl, rfl⟩
  · have hd : decide (lim < 1) = false := decide_eq_false h1; have hd2 : decide (lim > 64) = true := decide_eq_true (by omega); have hd3 : decide (64 < lim) = true := hd2; go_enter Tryd.func14, Tryd.ntmps14; go_wp2; go_ret2; exact ⟨rfl, rfl⟩
theorem seg3 (d x o : Th) (L : List Th) : ((L ++ [d]) ++ [x] ++ [o]).Perm (x :: o :: d :: L) := by
  have h1 : ((L ++ [d]) ++ [x] ++ [o]).Perm ([x, o] ++ (L ++ [d])) := by
    (have e : (L ++ [d]) ++ [x] ++ [o] = (L ++ [d]) ++ [x, o] := by simp); rw [e]; exact List.perm_append_comm
  refine h1.trans (.cons x (.cons o ?_)); exact List.perm_append_comm (l₁ := L) (l₂ := [d])
theorem NewOk (h : Sep w0 L w) (lim : Int) (h1 : 1 ≤ lim) (h2 : lim ≤ 64) : Calls Tryd.prog 14 #[.int .i64 lim] w fun E w' => ∃ g gd, E = .returned (.tuple #[.pointer (some ⟨g, 0, none⟩), .int .i64 0]) ∧ Seg w0 g gd lim [] 0 false [] 0 0 false 0 L w' := by
  have hd : decide (lim < 1) = false := decide_eq_false (by omega); have hd2 : decide (lim > 64) = false := decide_eq_false (by omega); have hd3 : decide (64 < lim) = false := hd2; have H := Aside0.mk (Dc.NewS h); clear h1 h2; go_enter Tryd.func14, Tryd.ntmps14; go_wp2_with (first | (go_at_call 42; go_must (refine H.out.mono ?_; rintro E w1 ⟨gd, rfl, p1⟩; have S1 := Aside0.mk p1; clear p1))); go_ret2; refine ⟨w1.heap.size, gd, rfl, .slice none 0 0, ?_⟩; have s := ((S1.out.blk_new (segCells gd lim (.slice none 0 0) 0 0 false 0) TS).empty K3 T3 w0.heap.size); exact s.perm (seg3 _ _ _ _)
end
theorem kG_KM {w w' : World} {base : Nat} {ok : Nat → Prop} (x : SG) (cs : List Value) (h : kG.K w x cs) : kG.M w' base ok x cs := by
  obtain rfl := k67_open h; exact k67_mkM _ _ _ _
def SplitPost (w : World) (r : List SG × Int) (E : Ending) (w' : World) : Prop := ∃ v, E = .returned (.tuple #[v, .int .i64 r.2]) ∧ kG.R TG w' w.heap.size (fun _ => True) v r.1 ∧ Below w.heap.size w w'
theorem post_of {w w' : World} {L : List Th} (h : Sep w L w') (i : Nat) {v : Value} {l : List SG} (hi : L[i]? = some (rowT kG TG w.heap.size v l)) : kG.R TG w' w.heap.size (fun _ => True) v l := by
  obtain ⟨ok, h1⟩ := h.one i _ hi; exact Kd.R_mono h1 (fun _ _ => trivial)
set_option maxRecDepth 100000 in
set_option maxHeartbeats 4000000 in
theorem SplitP (w : World) (hG : G w) (A : Option Addr) (n c : Nat) (b : List Int) (hC : KB.C w A n b) (hn : n = b.length) (hB : Bytes b) (hl : n ≤ 10000000) (lim : Int) :
    Calls Tryd.prog 39 #[.slice A n c, .int .i64 lim] w (SplitPost w (splitF lim b)) := by
  by_cases hlm : lim < 1 ∨ lim > 64
  · have HP := Aside0.mk (show ∀ E w', E = .returned (.tuple #[.slice none 0 0, .int .i64 1]) → w' = w → SplitPost w (splitF lim b) E w' from fun E w' h1 h2 => by
      subst h1 h2; unfold splitF; rw [if_pos hlm]
      exact ⟨_, rfl, Kd.R_nil _ _ _ _ _, Below.refl _ _⟩)
    have HN := Aside0.mk (NewNo w lim hlm); clear hlm hC hn hB hl; go_enter Tryd.func39, Tryd.ntmps39; go_wp2_with (first | (go_at_call 14; go_must (refine HN.out.mono ?_; rintro E w1 ⟨rfl, rfl⟩))); go_ret2; exact HP.out _ _ rfl rfl
  · have hsp : splitF lim b = (fin (segs lim b), errOf (segs lim b).2.2.2.2) := if_neg hlm; have hdl := Ux.dc_len b 0; have hdr := Ux.dc_rest b 0; have hff := dec_fine b.length b 0 hB (Int.le_refl _) (by omega); rw [show dec b.length b 0 = dc b 0 from rfl] at hff; obtain ⟨pts, hpts⟩ : ∃ pts, pts = (dc b 0).1 := ⟨_, rfl⟩; obtain ⟨kept, hkept⟩ : ∃ kept, kept = (dc b 0).2.1 := ⟨_, rfl⟩; obtain ⟨dat, hdat⟩ : ∃ dat, dat = (dc b 0).2.2 := ⟨_, rfl⟩; (have hdc : dc ([] ++ b) 0 = (pts, kept, dat) := by rw [List.nil_append, hpts, hkept, hdat]); (have hfull : full b = pts ++ rest1 kept dat := by rw [hpts, hkept, hdat]; rfl); rw [← hpts] at hff; rw [← hpts, ← hkept, ← hdat] at hdl; rw [← hkept] at hdr; obtain ⟨R, hR⟩ : ∃ R, R = tk lim pts [] 0 0 := ⟨_, rfl⟩; have hop := tk_open lim (by omega) pts [] 0 0 (by simp; omega) (by simp) hff
    have hseg : segs lim b = if R.2.2.2.2 = true then R else catT R.1 (tk lim (rest1 kept dat) R.2.1 R.2.2.1 R.2.2.2.1) := by
      unfold segs; rw [hfull, tk_app, ← hR]
    rw [← hR] at hop; have HN := Aside0.mk (NewOk (Sep.nil w) lim (by omega) (by omega)); have HDC := Aside0.mk hdc; have HRR := Aside0.mk hR; have HSP := Aside0.mk hsp; have HSG := Aside0.mk hseg; have HC := Aside0.mk hC; have HB := Aside0.mk hB; have HOP := Aside0.mk hop; (have hlim1 : 0 ≤ lim := by omega); (have hlim2 : lim ≤ 50000000 := by omega); have hkl : kept.length ≤ 3 := hdr.1; (have hda0 : 0 ≤ dat ∧ dat ≤ 1000000000000 := by omega); have HDA := Aside0.mk hda0; (have hpl : pts.length ≤ 10000000 := by omega); clear hlm hC hn hB hsp hdl hdr hff hpts hkept hdat hdc hfull hR hop hseg hda0; go_enter Tryd.func39, Tryd.ntmps39; go_upto_region 5 with (first | (go_at_call 14; go_must (refine HN.out.mono ?_; rintro E w1 ⟨g, gd, rfl, p1⟩; have S1 := Aside0.mk p1; clear p1)) | (go_at_call 15; go_must (refine (WriteOk w hG w1 g gd lim [] 0 [] 0 0 [] S1.out A n c b (by obtain ⟨_, s⟩ := S1.out; exact Kd.C_below HC.out s.below) (by rw [List.nil_append]; exact HB.out) (by simp; omega) (by omega) hlim2 (by simp; omega) (by simp) pts kept dat HDC.out).mono ?_; rw [← HRR.out]; rintro E w2 ⟨outv, rfl, p1⟩; have S2 := Aside0.mk p1; clear p1 S1))); clear HN HRR; obtain ⟨out, o, a, e, bad⟩ := R
    cases bad with
    | true =>
      have h6 : errOf true = 6 := rfl
      have HP := Aside0.mk (show ∀ E w', E = .returned (.tuple #[outv, .int .i64 6]) → w' = w2 → SplitPost w (splitF lim b) E w' from fun E w' h1 h2 => by
        subst h1 h2; rw [HSP.out, HSG.out, if_pos rfl]; obtain ⟨ov, s⟩ := S2.out
        exact ⟨_, rfl, post_of s 3 rfl, s.below⟩)
      go_wp2; go_ret2; exact HP.out _ _ rfl rfl
    | false =>
      have h0 : errOf false = 0 := rfl
      have hs : splitF lim b = (out ++ fin (tk lim (rest1 kept dat) o a e), errOf (tk lim (rest1 kept dat) o a e).2.2.2.2) := by
        rw [HSP.out, HSG.out, if_neg (by simp), fin_cat]; rfl
      have hfl : (fin (tk lim (rest1 kept dat) o a e)).length ≤ 10 := by
        have h := (tk_open lim hlim1 (rest1 kept dat) o a e HOP.out.1 HOP.out.2.1 (rest_fine kept dat HDA.out.1 (by have := HDA.out; omega))).2.2.1; (have hr : (rest1 kept dat).length ≤ 1 := by unfold rest1; split <;> simp); unfold fin; split
        · omega
        · split
          · omega
          · rw [List.length_append, List.length_singleton]; omega
      obtain ⟨R2, hR2⟩ : ∃ R2, R2 = tk lim (rest1 kept dat) o a e := ⟨_, rfl⟩; rw [← hR2] at hs hfl; have HS2 := Aside0.mk hs; have HR2 := Aside0.mk hR2; have hol : out.length ≤ 10000000 := Nat.le_trans HOP.out.2.2.1 hpl; clear hs hR2 HSP HSG; go_upto_region 8 with (first | (go_at_call 20; go_must (refine (CloseOk w hG w2 g gd lim kept dat o a e [rowT kG TG w.heap.size outv out] S2.out (by omega) HDA.out hlim1 hlim2 HOP.out.1 HOP.out.2.1).mono ?_; rw [← HR2.out]; rintro E w3 ⟨outv2, rfl, p1⟩; have S3 := Aside0.mk p1; clear p1))); clear HR2 S2; obtain ⟨ov, hS⟩ := S3.out; obtain ⟨ok1, hR1, hf1, hN1⟩ := Sep.row (d := kG) (e := TG) (base := w.heap.size) (v := outv) (xs := out) hS 3 rfl; obtain ⟨A2, c2, rfl, hc2, hC2⟩ := Sep.reads (d := kG) (e := TG) (base := w.heap.size) (v := outv2) (xs := fin R2) hS 4 rfl; have HB3 := Aside0.mk hS.below; have HR1 := Aside0.mk hR1; have HF1 := Aside0.mk hf1; have HN1 := Aside0.mk hN1; have HC2 := Aside0.mk hC2; clear hS hR1 hf1 hN1 hC2 hc2 S3; go_wp2_with (first | (at_builtin; go_must (refine Kd.R_append_rows kG (Rr := kG.K w3) (w0 := w) w.heap.size rfl (.tmp 33) (.tmp 34) 29 TG (.agg #[.string ⟨#[]⟩, .int .i64 0, .int .i64 0]) 32 rfl Tryd.underlying29 info67 rfl (by decide) (by decide) outv out (fin R2) A2 (fin R2).length c2 ok1 (fun _ => False) rfl rfl HR1.out HC2.out (fun x cs h => kG_KM x cs h) (fun _ h => h.elim) HF1.out HB3.out HB3.out.size (by omega) ?hh)))
      case hh =>
        intro v1 w4 ho hb hg hat; have hs := HN1.out v1 w4 _ ho hg
        have HP := Aside0.mk (show ∀ E w', E = .returned (.tuple #[v1, .int .i64 (errOf R2.2.2.2.2)]) → w' = w4 → SplitPost w (splitF lim b) E w' from fun E w' h1 h2 => by
          subst h1 h2; rw [HS2.out]
          exact ⟨_, rfl, post_of hs 3 rfl, hs.below⟩)
        clear ho hb hg hat hs HN1 HR1 HF1 HC2; go_wp2; go_ret2; exact HP.out _ _ rfl rfl
def textsF (b : List Int) : List ByteArray := (fin (segs (3 * (b.length : Int) + 3) b)).map (·.f0)
theorem sg_at {w : World} {A : Option Addr} {n : Nat} {l : List SG} (h : Kd.C kG w A n l) (j : Nat) (hj : j < n) (hjl : j < l.length) :
    ∃ ad, A = some ad ∧ w.cell? (ad.add (j * 3)) = some (.string l[j].f0) ∧ w.cell? ⟨(ad.add (j * 3)).block, (ad.add (j * 3)).off + 1, none⟩ = some (.int .i64 l[j].f1) ∧ w.cell? ⟨(ad.add (j * 3)).block, (ad.add (j * 3)).off + 2, none⟩ = some (.int .i64 l[j].f2) := by
  have := at_T67 h (j : Int) (by omega) (by omega); (have e : rd_T67 l (j : Int) = l[j] := by unfold rd_T67; simp [List.getD_eq_getElem?_getD, List.getElem?_eq_getElem hjl]); rw [Int.toNat_natCast, e] at this; exact this
def TextsPost (w : World) (r : List ByteArray) (E : Ending) (w' : World) : Prop := ∃ v, E = .returned v ∧ Kd.string.R 9 w' w.heap.size (fun _ => True) v r ∧ Below w.heap.size w w'
set_option maxRecDepth 100000 in
set_option maxHeartbeats 8000000 in
theorem TextsP (w : World) (hG : G w) (A : Option Addr) (n c : Nat) (b : List Int) (hC : KB.C w A n b) (hn : n = b.length) (hB : Bytes b) (hl : n ≤ 13000000) :
    Calls Tryd.prog 41 #[.slice A n c] w (TextsPost w (textsF b)) := by
  obtain ⟨lim, hlim⟩ : ∃ lim : Int, lim = 3 * (n : Int) + 3 := ⟨_, rfl⟩; have hdl := Ux.dc_len b 0; have hdr := Ux.dc_rest b 0; have hff := dec_fine b.length b 0 hB (Int.le_refl _) (by omega); rw [show dec b.length b 0 = dc b 0 from rfl] at hff; obtain ⟨pts, hpts⟩ : ∃ pts, pts = (dc b 0).1 := ⟨_, rfl⟩; obtain ⟨kept, hkept⟩ : ∃ kept, kept = (dc b 0).2.1 := ⟨_, rfl⟩; obtain ⟨dat, hdat⟩ : ∃ dat, dat = (dc b 0).2.2 := ⟨_, rfl⟩; (have hdc : dc ([] ++ b) 0 = (pts, kept, dat) := by rw [List.nil_append, hpts, hkept, hdat]); (have hfull : full b = pts ++ rest1 kept dat := by rw [hpts, hkept, hdat]; rfl); rw [← hpts] at hff; rw [← hpts, ← hkept, ← hdat] at hdl; rw [← hkept] at hdr; obtain ⟨R, hR⟩ : ∃ R, R = tk lim pts [] 0 0 := ⟨_, rfl⟩; have hop := tk_open lim (by omega) pts [] 0 0 (by simp; omega) (by simp) hff; have hnb := tk_nobad lim pts [] 0 0 hff (by simp; omega); rw [← hR] at hop hnb; have hrf := rest_fine kept dat (show 0 ≤ dat by omega) (by omega); have hrl : (rest1 kept dat).length ≤ 1 := by unfold rest1; split <;> simp
  have hnb2 : (segs lim b).2.2.2.2 = false := by
    unfold segs
    have hr0 : (rest1 kept dat).length = 0 ∨ kept ≠ [] := by
      unfold rest1; split
      · exact .inl rfl
      · rename_i h; exact .inr h
    refine tk_nobad lim (full b) [] 0 0 ?_ ?_
    · intro x hx; rw [hfull] at hx; exact (List.mem_append.1 hx).elim (hff x) (hrf x)
    · rw [hfull, List.length_append]; simp only [List.length_nil]; rcases hr0 with h | h
      · omega
      · have := List.length_pos_iff.2 h; omega
  have hseg : segs lim b = catT R.1 (tk lim (rest1 kept dat) R.2.1 R.2.2.1 R.2.2.2.1) := by
    unfold segs; rw [hfull, tk_app, ← hR, if_neg (by rw [hnb]; decide)]
  obtain ⟨out, o, a, e, bad⟩ := R; obtain rfl : bad = false := hnb; obtain ⟨R2, hR2⟩ : ∃ R2, R2 = tk lim (rest1 kept dat) o a e := ⟨_, rfl⟩; simp only at hseg hop; rw [← hR2] at hseg; (have hb2 : R2.2.2.2.2 = false := by rw [hseg] at hnb2; exact hnb2); obtain ⟨out2, o2, a2, e2, bad2⟩ := R2; obtain rfl : bad2 = false := hb2; (have hfin : fin (segs lim b) = out ++ fin (out2, o2, a2, e2, false) := by rw [hseg, fin_cat]); have hop2 := tk_open lim (by omega) (rest1 kept dat) o a e hop.1 hop.2.1 hrf; rw [← hR2] at hop2; obtain ⟨f2, hf2⟩ : ∃ f2, f2 = fin (out2, o2, a2, e2, false) := ⟨_, rfl⟩; rw [← hf2] at hfin
  have hfl : f2.length ≤ 10 := by
    rw [hf2]; have h := hop2.2.2.1; simp only at h; unfold fin; simp only [Bool.false_eq_true, if_false]; split
    · omega
    · rw [List.length_append, List.length_singleton]; omega
  (have htx : textsF b = (out ++ f2).map (·.f0) := by unfold textsF; rw [← hn, ← hlim, hfin]); have HTX := Aside0.mk htx; have HDC := Aside0.mk hdc; have HRR := Aside0.mk hR; have HR2 := Aside0.mk hR2; have HF2 := Aside0.mk hf2; have HC := Aside0.mk hC; have HB := Aside0.mk hB; have HOP := Aside0.mk hop; have HLIM := Aside0.mk hlim; (have hlim1 : 0 ≤ lim := by omega); (have hlim2 : lim ≤ 50000000 := by omega); have hkl : kept.length ≤ 3 := hdr.1; have HDA := Aside0.mk (show 0 ≤ dat ∧ dat ≤ 1000000000000 by omega); have hol : out.length ≤ 13000000 := Nat.le_trans hop.2.2.1 (by omega); have HS0 := Aside0.mk (Dc.NewS (Sep.nil w)); clear hC hn hB hdl hdr hff hpts hkept hdat hdc hfull hR hop hseg hrf hrl hnb2 hR2 hfin hop2 htx hlim hf2; go_enter Tryd.func41, Tryd.ntmps41; go_upto_region 2 with (first | (go_at_call 42; go_must (refine HS0.out.mono ?_; rintro E w1 ⟨gd, rfl, p1⟩; have S1 := Aside0.mk p1; clear p1))); rw [← HLIM.out]
  have S2 := Aside0.mk (show Seg w w1.heap.size gd lim [] 0 false [] 0 0 false 0 [] (w1.alloc (.cells (segCells gd lim (.slice none 0 0) 0 0 false 0) TS)) from
    ⟨.slice none 0 0, ((S1.out.blk_new (segCells gd lim (.slice none 0 0) 0 0 false 0) TS).empty K3 T3 w.heap.size).perm (seg3 _ _ _ _)⟩)
  obtain ⟨g, hg⟩ : ∃ g, g = w1.heap.size := ⟨_, rfl⟩; rw [← hg] at S2 ⊢; unfold segCells at S2; generalize (w1.alloc (.cells #[.pointer (some ⟨gd, 0, none⟩), .int .i64 lim, .slice none 0 0, .int .i64 0, .int .i64 0, .bool false, .int .i64 0] TS)) = w2 at S2 ⊢; clear S1 hg HS0 HLIM; have h0 : errOf false = 0 := rfl; (have hob : ((0 : Nat) : Int) ≤ lim := by omega); go_upto_region 5 with (first | (go_at_call 15; go_must (refine (WriteOk w hG w2 g gd lim [] 0 [] 0 0 [] S2.out A n c b (by obtain ⟨_, s⟩ := S2.out; exact Kd.C_below HC.out s.below) (by rw [List.nil_append]; exact HB.out) (by simp; omega) (by omega) hlim2 hob (by simp) pts kept dat HDC.out).mono ?_; rw [← HRR.out]; rintro E w3 ⟨outv, rfl, p1⟩; have S3 := Aside0.mk p1; clear p1 S2)) | (go_at_call 20; go_must (refine (CloseOk w hG w3 g gd lim kept dat o a e [rowT kG TG w.heap.size outv out] S3.out (by omega) HDA.out hlim1 hlim2 HOP.out.1 HOP.out.2.1).mono ?_; rw [← HR2.out]; rintro E w4 ⟨outv2, rfl, p1⟩; rw [← HF2.out] at p1; have S4 := Aside0.mk p1; clear p1 S3))); obtain ⟨ov, hS⟩ := S4.out; obtain ⟨ok1, hR1, hf1, hN1⟩ := Sep.row (d := kG) (e := TG) (base := w.heap.size) (v := outv) (xs := out) hS 3 rfl; obtain ⟨A2, c2, rfl, hc2, hC2⟩ := Sep.reads (d := kG) (e := TG) (base := w.heap.size) (v := outv2) (xs := f2) hS 4 rfl; have HB3 := Aside0.mk hS.below; have HR1 := Aside0.mk hR1; have HF1 := Aside0.mk hf1; have HN1 := Aside0.mk hN1; have HC2 := Aside0.mk hC2; clear hS hR1 hf1 hN1 hC2 hc2 S4 HRR HR2 HF2 HDC HOP HDA h0 hob; go_wp2_with (first | (at_builtin; go_must (refine Kd.R_append_rows kG (Rr := kG.K w4) (w0 := w) w.heap.size rfl (.tmp 29) (.tmp 30) 29 TG (.agg #[.string ⟨#[]⟩, .int .i64 0, .int .i64 0]) 32 rfl Tryd.underlying29 info67 rfl (by decide) (by decide) outv out f2 A2 f2.length c2 ok1 (fun _ => False) rfl rfl HR1.out HC2.out (fun x cs h => kG_KM x cs h) (fun _ h => h.elim) HF1.out HB3.out HB3.out.size (by omega) ?hh)))
  case hh =>
    intro v5 w5 ho hb hg hat; obtain ⟨all, hall⟩ : ∃ all, all = out ++ f2 := ⟨_, rfl⟩; have hs := HN1.out v5 w5 _ ho hg; rw [← hall] at hs; obtain ⟨A5, c5, rfl, hc5, -⟩ := Sep.reads (d := kG) (e := TG) (base := w.heap.size) (v := v5) (xs := all) hs 3 rfl; obtain ⟨m, hm⟩ : ∃ m, m = all.length := ⟨_, rfl⟩; rw [← hm] at hs ⊢; have S5 := Aside0.mk ((Sep.pickL (L' := [rowT kG TG w.heap.size (.slice A5 m c5) all]) hs [3] (by decide) rfl).empty Kd.string 9 w.heap.size); have HM := Aside0.mk hm; (have hml : m ≤ 20000000 := by rw [hm, hall, List.length_append]; omega); rw [← hall] at HTX; clear ho hb hg hat hs hc5 hm hall HN1 HR1 HF1 HC2 HB3; go_wp2; go_loopw [8, 33] (fun v8 v33 wr => ∃ i : Nat, v33 = .int .i64 i ∧ i ≤ m ∧ Aside0 (Sep w [rowT kG TG w.heap.size (.slice A5 m c5) all, rowT Kd.string 9 w.heap.size v8 ((all.take i).map (·.f0))] wr)) (fun _ v33 _ => m - (intOf v33).toNat)
    case atStart => exact ⟨0, rfl, Nat.zero_le _, S5⟩
    case round =>
      clear S5; obtain ⟨i, rfl, hi, HS⟩ := hrel; by_cases hlt : i < m
      · have hd : decide ((i : Int) < (m : Int)) = true := decide_eq_true (by omega); have hd2 : decide (i < m) = true := decide_eq_true hlt; (have hil : i < all.length := by have := HM.out; omega); obtain ⟨ad, rfl, z0, z1, z2⟩ := sg_at (HS.out.rows 0 rfl).2.2 i hlt hil; (have hn0 : (0 : Int) ≤ (i : Int) := by omega); (have hn1 : (i : Int) < (m : Int) := by omega); obtain ⟨x, hx⟩ : ∃ x, x = all[i] := ⟨_, rfl⟩; rw [← hx] at z0 z1 z2; (have hts : (all.take (i + 1)).map (·.f0) = (all.take i).map (·.f0) ++ [x.f0] := by rw [List.take_succ_eq_append_getElem hil, ← hx, List.map_append]; rfl); obtain ⟨ts, hts2⟩ : ∃ ts, ts = (all.take i).map (·.f0) := ⟨_, rfl⟩; rw [← hts2] at HS hts; (have htl : ts.length ≤ m := by rw [hts2, List.length_map, List.length_take]; omega); have HTS := Aside0.mk hts; clear hx hts hts2; go_upto_region 8 with (fail); have S6 := Aside0.mk (HS.out.blk_new #[.string x.f0, .int .i64 x.f1, .int .i64 x.f2] TG); obtain ⟨pb, hpb⟩ : ∃ pb, pb = wr.heap.size := ⟨_, rfl⟩; rw [← hpb] at S6 ⊢; generalize (wr.alloc (.cells #[.string x.f0, .int .i64 x.f1, .int .i64 x.f2] TG)) = w6 at S6 ⊢; clear z0 z1 z2 hpb HS; have z0 := blk_cell (S6.out.blk 2 rfl).1 0; obtain ⟨ok1, hR1, hf1, hN1⟩ := Sep.row (d := Kd.string) (e := 9) (base := w.heap.size) (v := u8) (xs := ts) S6.out 1 rfl; have HR1 := Aside0.mk hR1; have HF1 := Aside0.mk hf1; have HN1 := Aside0.mk hN1; have HB3 := Aside0.mk S6.out.below; clear hR1 hf1 hN1 S6; go_wp2_with (first | (at_builtin; go_must (refine Kd.R_append Kd.string (w0 := w) w.heap.size rfl (.tmp 37) (.tmp 40) 64 9 (.string ⟨#[]⟩) 16 rfl Tryd.underlying64 info9 rfl (by decide) (by decide) u8 ts x.f0 [.string x.f0] ok1 (fun _ => False) rfl rfl ?aP (fun _ hk => hk.elim) ?aF ?aO ?aB ?aS ?aL ?aK; (case aP => exact rfl); (case aB => exact HB3.out); (case aF => exact HF1.out); (case aO => exact HR1.out); (case aS => exact HB3.out.size); (case aL => omega))))
        case aK =>
          intro v1 w7 ho hb hg hat; have hs := HN1.out v1 w7 _ ho hg; have S7 := Aside0.mk (show Sep w [rowT kG TG w.heap.size (.slice (some ad) m c5) all, rowT Kd.string 9 w.heap.size v1 ((all.take (i + 1)).map (·.f0))] w7 from by rw [HTS.out]; exact Sep.pickL hs [0, 1] (by decide) rfl); clear ho hb hg hat hs HR1 HF1 HN1 HB3; go_wp2; go_roundw
          case rel => exact ⟨i + 1, by go_num, by omega, S7⟩
          case measure => simp [intOf]; omega
      · have hd : decide ((i : Int) < (m : Int)) = false := decide_eq_false (by omega); have hd2 : decide (i < m) = false := decide_eq_false hlt; go_wp2; go_ret; obtain ⟨ok, h1⟩ := HS.out.one 1 _ rfl; rw [HTX.out]; rw [List.take_of_length_le (by have := HM.out; omega)] at h1; exact ⟨_, rfl, Kd.R_mono h1 (fun _ _ => trivial), HS.out.below⟩
end Go.Proofs.YthffpkdadffinaaDoor.Sgd
namespace Go.Proofs.YthffpkdadffinaaDoor.X
set_option linter.unusedVariables false
set_option linter.unusedSimpArgs false
open Go.RowKit YthffpkdadffinaaDoorW.PrintWords YthffpkdadffinaaDoorW.PrintLast YthffpkdadffinaaDoorW.PrintMore Ux
def bytesB (l : List Int) : Bool := l.all fun x => decide (0 ≤ x) && decide (x ≤ 255)
theorem bytesB_of {l : List Int} (h : bytesB l = true) : Bytes l := fun x hx => by
  have := List.all_eq_true.1 h x hx; simp only [Bool.and_eq_true, decide_eq_true_eq] at this; exact this
theorem bytesB_mk {l : List Int} (h : Bytes l) : bytesB l = true := List.all_eq_true.2 fun x hx => by
  have := h x hx; simp only [Bool.and_eq_true, decide_eq_true_eq]; exact this
def seg_Split.f (l : List Int) (lim : Int) : Option (List S67 × Int) := if bytesB l = true ∧ l.length ≤ 10000000 then some (Sgd.splitF lim l) else none
theorem seg_Split.calls (A0 : Option Addr) (c0 : Nat) (l0 : List Int) (a1 : Int) (r1 : List S67) (r2 : Int) (w : World) (hr0 : Kd.C (Kd.int .u8) w A0 l0.length l0) (hc0 : l0.length ≤ c0) (h : seg_Split.f l0 a1 = some (r1, r2)) (hG0 : Va.G w) :
    Calls Tryd.prog 39 #[.slice A0 l0.length c0, .int .i64 a1] w fun e w' => ∃ v0_ : Value, e = .returned (.tuple #[v0_, .int .i64 r2]) ∧ Kd.R k67 67 w' w.heap.size (fun _ => True) v0_ r1 ∧ Below w.heap.size w w' := by
  unfold seg_Split.f at h; split at h
  · rename_i hh; have h := Option.some.inj h; refine (Sgd.SplitP w hG0 A0 l0.length c0 l0 hr0 rfl (bytesB_of hh.1) (by omega) a1).mono ?_; rintro e w' ⟨v, rfl, p1, p2⟩; rw [h] at p1 ⊢; exact ⟨v, rfl, p1, p2⟩
  · cases h
def seg_Texts.f (l : List Int) : Option (List ByteArray) := if bytesB l = true ∧ l.length ≤ 13000000 then some (Sgd.textsF l) else none
theorem seg_Texts.calls (A0 : Option Addr) (c0 : Nat) (l0 : List Int) (r : List ByteArray) (w : World) (hr0 : Kd.C (Kd.int .u8) w A0 l0.length l0) (hc0 : l0.length ≤ c0) (h : seg_Texts.f l0 = some r) (hG0 : Va.G w) :
    Calls Tryd.prog 41 #[.slice A0 l0.length c0] w fun e w' => ∃ v0_ : Value, e = .returned v0_ ∧ Kd.R Kd.string 9 w' w.heap.size (fun _ => True) v0_ r ∧ Below w.heap.size w w' := by
  unfold seg_Texts.f at h; split at h
  · rename_i hh; cases Option.some.inj h; exact Sgd.TextsP w hG0 A0 l0.length c0 l0 hr0 rfl (bytesB_of hh.1) hh.2
  · cases h
def lenF (s : ByteArray) : Nat := (Ot.rns (bytesOf s)).length
def tremaref04_Length.f (s : ByteArray) (_ _ : Int) : Option Int := if s.size ≤ 1000000000 then some (lenF s : Int) else none
theorem RunesR (w : World) (A : Option Addr) (n c : Nat) (l : List Int) (k : Nat) {r : List Int} (hC : Kd.C (Kd.int .u8) w A n l) (hn : n = l.length) (hc : n ≤ c) (h : tremaref01_Runes.f k l = some r) :
    Calls Tryd.prog 36 #[.slice A n c] w fun e w' => ∃ v0_ : Value, e = .returned v0_ ∧ Kd.R (Kd.int .i32) 21 w' w.heap.size (fun _ => True) v0_ r ∧ Below w.heap.size w w' := by
  subst hn; exact tremaref01_Runes.calls k A c l r w hC hc h
set_option maxHeartbeats 2000000 in
set_option maxRecDepth 100000 in
theorem tremaref04_Length.calls (s : ByteArray) (f1 f2 r : Int) (w : World) (h : tremaref04_Length.f s f1 f2 = some r) :
    Calls Tryd.prog 49 #[.agg #[.string s, .int .i64 f1, .int .i64 f2]] w fun e w' => e = .returned (.int .i64 r) ∧ Below w.heap.size w w' := by
  unfold tremaref04_Length.f at h; split at h
  · rename_i hl; cases Option.some.inj h; obtain ⟨k, hk⟩ := Ev.rounds (Ot.runesEv (bytesOf s) (bytesOf_Bytes s) (by rw [bytesOf_length]; exact hl)); (have kb := fun W => print_bytes (P := Tryd.prog) 9 23 5 Tryd.underlying9 Tryd.underlying23 Tryd.underlying5 s W); obtain ⟨w1, hw1⟩ : ∃ w1, w1 = w.alloc (.cells #[.string s, .int .i64 f1, .int .i64 f2] 67) := ⟨_, rfl⟩; have H1 := Aside0.mk (show Below w.heap.size w w1 by rw [hw1]; exact below_alloc (Below.refl _ _) _); (have c0 : w1.cell? ⟨w.heap.size, 0, none⟩ = some (.string s) := by rw [hw1]; exact blk_cell (heap_alloc_new w _) 0); have HC := Aside0.mk (bytes_reads w1 5 s (by omega)); have HB2 := Aside0.mk (bytes_below (Below.refl w1.heap.size w1) (Nat.le_refl _) 5 s); have HK := Aside0.mk hk; have HL := Aside0.mk (bytesOf_length s); clear hk h hl; go_enter Tryd.func49, Tryd.ntmps49; go_upto_region 1 with (fail); rw [← hw1]; clear hw1; go_wp2_with (first | (go_at_call 36; go_must (refine (RunesR _ _ _ (grownCap w1 s.size 0 5) (bytesOf s) k (Hp.rdC HC.out) HL.out.symm (grownCap_ge _ _ _ _) HK.out).mono ?_; rintro E w2 ⟨v2, rfl, p1, p2⟩; obtain ⟨A2, c2, rfl⟩ := Kd.R_slice p1; have H2 := Aside0.mk (below_step H1.out (HB2.out.trans (p2.mono HB2.out.size))); clear p1 p2))); go_ret; exact ⟨rfl, H2.out⟩
  · cases h
end Go.Proofs.YthffpkdadffinaaDoor.X
namespace Go.Proofs.YthffpkdadffinaaDoor.Rt
set_option linter.unusedVariables false
set_option linter.unusedSimpArgs false
open Go.RowKit YthffpkdadffinaaDoorW.PrintWords Hp Ux En X
theorem one1_enc (f : Int) (hv : vld f = true) (s : List Int) : ∃ c t, encv f = c :: t ∧ one1 c (t ++ s) = (f, (((encv f).length : Nat) : Int), false) := by
  simp only [vld, decide_eq_true_eq] at hv; unfold encv; split
  · rename_i h1; exact ⟨f, [], rfl, by simp [one1, bnd, st, h1, cont]⟩
  · split
    · rename_i h1 h2; refine ⟨_, _, rfl, ?_⟩; unfold one1 bnd st; rw [if_neg (by omega), if_neg (by omega), if_pos (by omega), if_neg (by omega), if_pos (by omega)]; simp only [List.cons_append, List.nil_append, cont]; rw [if_neg (by omega)]; simp only [List.length_cons, List.length_nil, Prod.mk.injEq]; exact ⟨by omega, by omega, trivial⟩
    · split
      · rename_i h1 h2 h3; refine ⟨_, _, rfl, ?_⟩; unfold one1 bnd st; rw [if_neg (show ¬ (224 + f / 4096 < 128) by omega), if_neg (show ¬ (224 + f / 4096 < 194 ∨ 244 < 224 + f / 4096) by omega), if_neg (show ¬ (224 + f / 4096 < 224) by omega), if_pos (show 224 + f / 4096 < 240 by omega), if_neg (show ¬ (224 + f / 4096 < 128) by omega), if_neg (show ¬ (224 + f / 4096 < 224) by omega), if_pos (show 224 + f / 4096 < 240 by omega)]; simp only [List.cons_append, List.nil_append, cont]; rw [if_neg (by split <;> split <;> omega), if_neg (by omega)]; simp only [List.length_cons, List.length_nil, Prod.mk.injEq]; exact ⟨by omega, by omega, trivial⟩
      · rename_i h1 h2 h3; refine ⟨_, _, rfl, ?_⟩; unfold one1 bnd st; rw [if_neg (show ¬ (240 + f / 262144 < 128) by omega), if_neg (show ¬ (240 + f / 262144 < 194 ∨ 244 < 240 + f / 262144) by omega), if_neg (show ¬ (240 + f / 262144 < 224) by omega), if_neg (show ¬ 240 + f / 262144 < 240 by omega), if_neg (show ¬ (240 + f / 262144 < 128) by omega), if_neg (show ¬ (240 + f / 262144 < 224) by omega), if_neg (show ¬ 240 + f / 262144 < 240 by omega)]; simp only [List.cons_append, List.nil_append, cont]; rw [if_neg (by split <;> split <;> omega), if_neg (by omega), if_neg (by omega)]; simp only [List.length_cons, List.length_nil, Prod.mk.injEq]; exact ⟨by omega, by omega, trivial⟩
theorem dc_encv (f : Int) (hv : vld f = true) (s : List Int) (p : Int) : dc (encv f ++ s) p = ((⟨f, p, (encv f).length⟩ : S103) :: (dc s (p + (encv f).length)).1, (dc s (p + (encv f).length)).2) := by
  obtain ⟨c, t, h1, h2⟩ := one1_enc f hv s; (have hl : (encv f).length = t.length + 1 := by rw [h1]; rfl); rw [h1, List.cons_append, dc_cons, h2]; simp only [Bool.false_eq_true, if_false]; (have e : (c :: (t ++ s)).drop (((encv f).length : Nat) : Int).toNat = s := by rw [Int.toNat_natCast, hl]; simp); rw [e, hl]; simp
end Go.Proofs.YthffpkdadffinaaDoor.Rt
namespace Go.Proofs.YthffpkdadffinaaDoor.Bk
set_option linter.unusedVariables false
set_option linter.unusedSimpArgs false
open Go.RowKit YthffpkdadffinaaDoorW.PrintWords Hp Ux En Rt X
def ful (b : List Int) (p : Int) : List S103 := (dc b p).1 ++ rest1 (dc b p).2.1 (dc b p).2.2
theorem full_ful (b : List Int) : full b = ful b 0 := rfl
theorem ful_nil (p : Int) : ful [] p = [] := by simp [ful, dc_nil, rest1]
theorem ful_cons (c : Int) (t : List Int) (p : Int) : ful (c :: t) p = (⟨(one1 c t).1, p, (one1 c t).2.1⟩ : S103) :: ful ((c :: t).drop (one1 c t).2.1.toNat) (p + (one1 c t).2.1) := by
  cases h : (one1 c t).2.2 with
  | true =>
    have h3 := one1_more c t h; (have e : (c :: t).drop (one1 c t).2.1.toNat = [] := by rw [h3.2.1]; exact List.drop_eq_nil_of_le (by simp; omega)); rw [e, ful_nil]; unfold ful; rw [dc_cons, if_pos h]; simp [rest1, h3.1, h3.2.1]; omega
  | false =>
    unfold ful; rw [dc_cons, if_neg (by simp [h])]; simp
theorem ful_enc1 (r : Int) (s : List Int) (p : Int) : ful (enc1 r ++ s) p = (⟨fixr r, p, (enc1 r).length⟩ : S103) :: ful s (p + (enc1 r).length) := by
  unfold ful enc1; rw [dc_encv (fixr r) (fixr_ok r).2.2 s p]; simp
theorem ful_enc : ∀ (l : List Int) (p : Int), (ful (enc l) p).map (·.f0) = l.map fixr
  | [], p => by simp [enc, ful_nil]
  | r :: l, p => by
    simp only [enc]; rw [ful_enc1]; simp [ful_enc l]
theorem str_inj {a b : List Int} (ha : Bytes a) (hb : Bytes b) (h : strOfNums a = strOfNums b) : a = b := by
  (have h1 : a.map (fun n => UInt8.ofNat n.toNat) = b.map (fun n => UInt8.ofNat n.toNat) := by rw [← strOfNums_data, ← strOfNums_data, h]); clear h
  induction a generalizing b with
  | nil => cases b with
    | nil => rfl
    | cons y b => simp at h1
  | cons x a ih =>
    cases b with
    | nil => simp at h1
    | cons y b =>
      simp only [List.map_cons] at h1; injection h1 with h2 h3; have hx := ha x List.mem_cons_self; have hy := hb y List.mem_cons_self; have h4 := congrArg UInt8.toNat h2; simp only [UInt8.toNat_ofNat'] at h4; (have : x = y := by omega); rw [this, ih (fun z hz => ha z (List.mem_cons_of_mem _ hz)) (fun z hz => hb z (List.mem_cons_of_mem _ hz)) h3]
end Go.Proofs.YthffpkdadffinaaDoor.Bk
