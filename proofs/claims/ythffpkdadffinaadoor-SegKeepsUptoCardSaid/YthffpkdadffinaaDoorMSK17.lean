/-
  Several texts of this claim in one: what its law's proof uses.
-/
import Derived.Test.YthffpkdadffinaaDoorMSK16
import Derived.Test.YthffpkdadffinaaDoorMSK1
import Derived.Test.YthffpkdadffinaaDoorRows
import Derived.Test.YthffpkdadffinaaDoorMSK2
import Derived.ProofKit
import Derived.LaidMore
import Derived.OpenShut
import Derived.Stop.Joined
import Derived.Test.YthffpkdadffinaaDoorMSK14
import Derived.Test.YthffpkdadffinaaDoorTie
import Derived.Test.YthffpkdadffinaaDoorCards
import Derived.WalkKit
import Derived.ShutString
import Derived.ChangeOld
import Derived.Below
import Derived.SizedLaws
import Derived.JoinedCond
import Derived.SevenTiedAt
import Derived.Deep.DeepHandedRow
import Derived.Deep.DeepWitnessRowRef
namespace Go.Proofs.YthffpkdadffinaaDoor.Lsk
set_option linter.unusedVariables false
set_option linter.unusedSimpArgs false
open Go.Proofs.YthffpkdadffinaaDoor.Vd (decU)
open Go.Proofs.YthffpkdadffinaaDoor.Fr (K3 T3)
open Go.Proofs.YthffpkdadffinaaDoor.Dc (decT)
open Go.Proofs.YthffpkdadffinaaDoor.Ux (Bytes full dc rest1)
open Go.RowKit Go.Proofs.YthffpkdadffinaaDoorW.PrintWords Go.Proofs.YthffpkdadffinaaDoor.Hp Go.Proofs.YthffpkdadffinaaDoor.Fm Go.Proofs.YthffpkdadffinaaDoor.Ev0 Go.Proofs.YthffpkdadffinaaDoor.X Go.Proofs.YthffpkdadffinaaDoor.Va Go.Proofs.YthffpkdadffinaaDoor.Oa Go.Proofs.YthffpkdadffinaaDoor.Vp0 Go.Proofs.YthffpkdadffinaaDoor.Sga Go.Proofs.YthffpkdadffinaaDoor.Sgb Go.Proofs.YthffpkdadffinaaDoor.Sgc Go.Proofs.YthffpkdadffinaaDoor.Sgd Go.Proofs.YthffpkdadffinaaDoor.Sgp Go.Proofs.YthffpkdadffinaaDoor.Sgq Go.Proofs.YthffpkdadffinaaDoor.Lsl
theorem wpList_app {ops : Array Oper} {rest : List Oper} {o : Oper} {a : Act} {Q : Exit → Act → World → Prop} {W W' : World} {r v1 v2 : Value} (hgd : o.guard = none) (s x : Operand) (t : TypeId) (ho : o.op = .call { callee := .builtin .append, args := #[s, x], argTypes := #[t, t] })
    (hs : a.eval s = v1) (hx : a.eval x = v2) (hr : (Builtin.append_ #[t, t] o.type #[v1, v2]).run Tryd.prog W = .ok r W') (h : wpList Tryd.prog ops Q rest (a.put o.dst r) W') : wpList Tryd.prog ops Q (o :: rest) a W :=
  wpList_plain hgd fun _ hK => by
    unfold Oper.wp execOp
    simp only [ho, resolve, invoke, builtin, Sem.run_bind, Sem.run_pure, Result.andThen_ok, List.map_toArray, List.map_cons, List.map_nil, hs, hx, hr]
    exact hK _ _ h
theorem nums_cell (ys : List Int) (j : Nat) (h : j < ys.length) : (nums .u8 ys).toArray[j]? = some (.int .u8 (ys.getD j 0)) := by
  simp [nums, h]
theorem rem_cut (cut : Int) (n : Nat) (hn : n ≤ 1048576) : ∃ N : Nat, N ≤ n ∧ wrap64 ((IntKind.u64.wrap cut).tmod ((n : Int) + 1)) = (N : Int) := by
  have e : IntKind.u64.wrap cut = cut % 18446744073709551616 := by simp [IntKind.wrap, IntKind.bits, IntKind.signed]
  have h1 : 0 ≤ IntKind.u64.wrap cut := by rw [e]; exact Int.emod_nonneg _ (by decide)
  have h2 := Int.tmod_lt_of_pos (IntKind.u64.wrap cut) (show (0 : Int) < (n : Int) + 1 by omega)
  have h3 := Int.tmod_nonneg ((n : Int) + 1) h1
  refine ⟨((IntKind.u64.wrap cut).tmod ((n : Int) + 1)).toNat, by omega, ?_⟩
  unfold wrap64
  omega
theorem cut3' (g n N c : Nat) (h : N ≤ c) : ∀ W : World, (Instr.slice 23 (.slice (some ⟨g, 0, none⟩) n c) none (some (.int .i64 (N : Int))) (some (.int .i64 (N : Int)))).run Tryd.prog W = .ok (.slice (some ⟨g, 0, none⟩) N N) W := by
  intro W
  obtain ⟨i8, hi8, hz8⟩ := Option.map_eq_some_iff.1 Rm.info_8
  have hel : Tryd.prog.elem 23 = 5 := by simp [Program.elem, Tryd.underlying23]
  have hu : Tryd.prog.underlying 23 = some (.slice (Tryd.prog.elem 23)) := by rw [hel]; exact Tryd.underlying23
  rw [run_slice_hm W 23 (some ⟨g, 0, none⟩) n c hu .i64 .i64 (N : Int) (N : Int) (by omega) (by omega) (by omega), hel]
  simp [sizeOf, typeInfo, hi8, sliced, Result.andThen, Addr.add]
theorem split_st (lim : Int) (h1 : 1 ≤ lim) (h2 : lim ≤ 64) (b : List Int) : splitF lim b = if (St lim b).2.2.2.2 = true then ((St lim b).1, 6)
    else ((St lim b).1 ++ fin (tk lim (rest1 (dc b 0).2.1 (dc b 0).2.2) (St lim b).2.1 (St lim b).2.2.1 (St lim b).2.2.2.1), errOf (tk lim (rest1 (dc b 0).2.1 (dc b 0).2.2) (St lim b).2.1 (St lim b).2.2.1 (St lim b).2.2.2.1).2.2.2.2) := by
  have hs : segs lim b = if (St lim b).2.2.2.2 = true then St lim b else catT (St lim b).1 (tk lim (rest1 (dc b 0).2.1 (dc b 0).2.2) (St lim b).2.1 (St lim b).2.2.1 (St lim b).2.2.2.1) := by
    unfold segs St
    rw [show full b = (dc b 0).1 ++ rest1 (dc b 0).2.1 (dc b 0).2.2 from rfl, tk_app]
  unfold splitF
  rw [if_neg (by omega), hs]
  by_cases hb : (St lim b).2.2.2.2 = true
  · rw [if_pos hb, if_pos hb, hb]
    unfold fin
    rw [if_pos hb]
    rfl
  · rw [if_neg hb, if_neg hb, fin_cat]
    rfl
theorem st_bad (lim : Int) (b ys : List Int) (h : (St lim b).2.2.2.2 = true) : St lim (b ++ ys) = St lim b := by
  unfold St at h ⊢
  rw [Ux.dc_append, tk_app, if_pos h]
theorem room_C {w0 w : World} {L : List Th} {g : Nat} {l r : List Int} (h : Sep w0 L w) (i : Nat) (hi : L[i]? = some (blkT g (nums .u8 (l ++ r)).toArray 5)) (m : Nat) (hn : m ≤ l.length) (hm : (l ++ r).length ≤ 9223372036854775807) : KB.C w (some ⟨g, 0, none⟩) m (l.take m) := by
  have h := Rm.room_reads (h.blk i hi).1 hm m (by rw [List.length_append]; omega)
  rw [List.take_append_of_le_length hn] at h
  exact rdC h
theorem SplitV (w : World) (A : Option Addr) (n c : Nat) (b : List Int) (lim : Int) (hC : KB.C w A n b) (hn : n = b.length) (hc : n ≤ c) (hB : Bytes b) (hl : n ≤ 10000000) (r : List SG) (e : Int) (hr : splitF lim b = (r, e)) :
    Calls Tryd.prog 21 #[.slice A n c, .int .i64 lim] w fun E w' => ∃ v, E = .returned (.tuple #[v, .int .i64 e]) ∧ kG.R TG w' w.heap.size (fun _ => True) v r ∧ Below w.heap.size w w' := by
  subst hn
  obtain ⟨k, hk⟩ := Ev.rounds (Sgr.splitEv b hB hl lim)
  rw [hr] at hk
  exact tremaref04_Split.calls k A c b lim r e w hC hc hk
def Lk (wc : World) (gs gd g : Nat) (ov outv : Value) (o : List Int) (a e : Int) (kept : List Int) (dat : Int) (cl dcl : Bool) (er : Int) (rs : List Int) (x : List SG) : List Th :=
  [blkT gs (segCells gd 64 ov a e cl er) TS, rowT K3 T3 wc.heap.size ov o, decT gd wc.heap.size kept dat dcl, blkT g (nums .u8 (rs ++ List.replicate 4 0)).toArray 5, rowT kG TG wc.heap.size outv x]
set_option maxRecDepth 100000 in
set_option maxHeartbeats 8000000 in
theorem keeps (w : World) (hG : G w) (A : Option Addr) (b : List Int) (c : Nat) (hC : KB.C w A b.length b) (hc : b.length ≤ c) (hB : Bytes b) (hl : b.length ≤ 1048576) (cut : Int) :
    Calls Tryd.prog 4 #[.slice A b.length c, .int .i64 cut] w fun e w' => e = .returned (.bool true) ∧ Below w.heap.size w w' := by
  obtain ⟨n, hn⟩ : ∃ n, n = b.length := ⟨_, rfl⟩
  rw [← hn] at hC hc hl ⊢
  have HC := Aside0.mk hC
  have HB := Aside0.mk hB
  have HN := Aside0.mk hn
  have HG := Aside0.mk hG
  clear hC hB hn hG
  obtain ⟨i8, hi8, hz8⟩ := Option.map_eq_some_iff.1 Rm.info_8
  simp only [Prod.mk.injEq] at hz8
  have HMK := Aside0.mk (show ∀ W : World, (Instr.makeSlice 23 (.int .i64 0) (.int .i64 ((n : Int) + 4))).run Tryd.prog W = .ok (.slice (some ⟨W.heap.size, 0, none⟩) 0 (n + 4)) (W.alloc (.cells (nums .u8 (List.replicate (n + 4) 0)).toArray 5)) by
    intro W
    have := run_make (P := Tryd.prog) W 23 5 i8 (.int .u8 0) Tryd.underlying23 hi8 hz8.1 .i64 .i64 0 ((n : Int) + 4) (Int.le_refl _) (by omega) (by rw [hz8.2.2]; omega) (by omega)
    rw [hz8.2.1, Rm.made] at this
    simpa [show ((n : Int) + 4).toNat = n + 4 by omega] using this)
  have hw8 : IntKind.i64.wrap ((n : Int) + 4) = (n : Int) + 4 := by rw [IntKind.wrap_i64]; omega
  have HCFR := Aside0.mk (show ∀ N : Nat, N ≤ n → ∃ A' : Option Addr, (∀ W : World, (Instr.slice 23 (.slice A n c) (some (.int .i64 (N : Int))) none none).run Tryd.prog W = .ok (.slice A' (n - N) (c - N)) W) ∧ (∀ W, KB.C W A n b → KB.C W A' (n - N) (b.drop N)) by
    intro N hN
    obtain ⟨A', h1, h2⟩ := print_cut_of (P := Tryd.prog) (Value.int .u8) 0 23 5 .i64 Tryd.underlying23 hi8 hz8.2.1 A n c N hN
    exact ⟨A', h1, fun W h => Kd.C_of_reads (h1 := fun _ => rfl) (h2 W b hc (Kd.reads_of_C h))⟩)
  obtain ⟨N0, hN0, hrem⟩ := rem_cut cut n hl
  clear hi8 hz8
  go_enter Tryd.func4, Tryd.ntmps4
  go_upto_if 26 with (first | (go_at_call 13; refine (Sgf.segFixedP w HG.out).mono ?_; rintro e w1 ⟨rfl, h1⟩; have H1 := Aside0.mk h1; clear h1))
  go_cut [5] (fun v5 wc => ∃ N : Nat, N ≤ n ∧ v5 = .int .i64 N ∧ Aside0 (Below w.heap.size w wc))
  case first =>
    by_cases hn0 : 0 < n
    · have hd : decide (0 < n) = true := decide_eq_true hn0
      go_wp2
      go_meet
      case rel => exact ⟨N0, hN0, by first | rfl | rw [hrem], H1⟩
    · have hd : decide (0 < n) = false := decide_eq_false hn0
      go_wp2
      go_meet
      case rel => exact ⟨0, Nat.zero_le _, rfl, H1⟩
  case rest =>
    clear hrem H1
    obtain ⟨N, hNn, rfl, H1⟩ := hcut
    have HG1 := Aside0.mk (HG.out.below H1.out)
    obtain ⟨b1, hb1⟩ : ∃ x, x = b.take N := ⟨_, rfl⟩
    obtain ⟨b2, hb2⟩ : ∃ x, x = b.drop N := ⟨_, rfl⟩
    have hbb : b = b1 ++ b2 := by rw [hb1, hb2, List.take_append_drop]
    have hB1 : Bytes b1 := by rw [hb1]; exact fun y hy => HB.out y (List.mem_of_mem_take hy)
    have hB2 : Bytes b2 := by rw [hb2]; exact fun y hy => HB.out y (List.mem_of_mem_drop hy)
    have hl1 : b1.length = N := by rw [hb1, List.length_take, ← HN.out]; omega
    have hl2 : b2.length = n - N := by rw [hb2, List.length_drop, ← HN.out]
    obtain ⟨f1, f2, f3, f4, f5, f6⟩ := st_facts 64 (by decide) b1 hB1 (by omega)
    have hsp := split_st 64 (by decide) (by decide) b
    have hbadb := st_bad 64 b1 b2
    have happ := st_app 64 b1 b2
    have hdc2 := dc_app2 b1 b2
    rw [← hbb] at hbadb happ hdc2
    obtain ⟨kept, hkept⟩ : ∃ x, x = (dc b1 0).2.1 := ⟨_, rfl⟩
    obtain ⟨dat, hdat⟩ : ∃ x, x = (dc b1 0).2.2 := ⟨_, rfl⟩
    have hdc1 : dc ([] ++ b1) 0 = ((dc b1 0).1, kept, dat) := by rw [List.nil_append, hkept, hdat]
    rw [← hkept, ← hdat] at happ hdc2
    rw [← hkept] at f4 f6
    rw [← hdat] at f5
    obtain ⟨P, hP⟩ : ∃ P, P = St 64 b1 := ⟨_, rfl⟩
    rw [← hP] at f1 f2 f3 hbadb happ
    have hR1 : tk 64 (dc b1 0).1 [] 0 0 = P := hP.symm
    obtain ⟨x, o1, a1, e1, bad1⟩ := P
    simp only at f1 f2 f3 hbadb happ
    have HF := Aside0.mk (And.intro f1 (And.intro f2 (And.intro f4 (And.intro f5 f6))))
    have HXL := Aside0.mk f3
    have HSP := Aside0.mk hsp
    have HBAD := Aside0.mk hbadb
    have HAPP := Aside0.mk happ
    have HDC2 := Aside0.mk hdc2
    have HDC1 := Aside0.mk hdc1
    have HR1 := Aside0.mk hR1
    have HB1 := Aside0.mk hB1
    have HB2 := Aside0.mk hB2
    have HL1 := Aside0.mk hl1
    have HL2 := Aside0.mk hl2
    have HBE1 := Aside0.mk hb1
    have HBE2 := Aside0.mk hb2
    have hmk := HMK.out
    obtain ⟨W4, hap, hbk, hch⟩ := Rm.append_room (wc.alloc (.cells (nums .u8 (List.replicate (n + 4) 0)).toArray 5)) 23 wc.heap.size (n + 4) (List.replicate (n + 4) 0) (heap_alloc_new wc _) List.length_replicate A n c b (rdint (Kd.C_below HC.out (below_step H1.out (below_alloc (Below.refl _ _) _)))) (by omega)
    have HAP := Aside0.mk hap
    obtain ⟨g, hg⟩ : ∃ g, g = wc.heap.size := ⟨_, rfl⟩
    have S0 := Aside0.mk (show Sep wc [blkT g (nums .u8 (b ++ List.replicate 4 0)).toArray 5] W4 by
      have s := ((Sep.nil wc).blk_new (nums .u8 (List.replicate (n + 4) 0)).toArray 5).blk_chg 0 rfl hbk hch
      rw [List.drop_replicate, show n + 4 - n = 4 by omega] at s
      rw [hg]
      exact s)
    clear hb1 hb2 hbb hB1 hB2 hl1 hl2 f1 f2 f3 f4 f5 f6 hsp hbadb happ hdc2 hkept hdat hdc1 hP hR1 hap hbk hch
    go_upto_region 7 with (first | (at_builtin; go_must (refine wpList_app rfl (.tmp 38) (.tmp 39) 23 rfl rfl rfl HAP.out ?_)))
    clear hmk HAP HMK
    rw [← hg]
    clear hg
    have hcut := cut3' g n N (n + 4) (by omega)
    have h64 : (64 : Int) ≤ 50000000 := by decide
    go_upto_region 9 with (first | (go_at_call 14; go_must (refine (NewOk S0.out 64 (by decide) (by decide)).mono ?_; rintro E w3 ⟨gs, gd, rfl, p1⟩; have S3 := Aside0.mk p1; clear p1)) | (go_at_call 15; go_must (refine (WriteOk wc HG1.out w3 gs gd 64 [] 0 [] 0 0 _ S3.out (some ⟨g, 0, none⟩) N N b1 (by obtain ⟨_, s⟩ := S3.out; rw [HBE1.out]; exact room_C s 3 rfl N (by rw [← HN.out]; exact hNn) (by rw [List.length_append, ← HN.out]; simp; omega)) (by rw [List.nil_append]; exact HB1.out) (by simp; omega) (by decide) h64 (by decide) (by simp) _ kept dat HDC1.out).mono ?_; rw [HR1.out]; rintro E w4 ⟨outv, rfl, ov4, hS4⟩; have S4 := Aside0.mk hS4; clear hS4)))
    clear hcut S3 S0
    have S5 := Aside0.mk (show Sep wc (Lk wc gs gd g ov4 outv o1 a1 e1 kept dat false false (errOf bad1) b x) w4 from S4.out)
    clear S4
    go_wp2
    go_loopw [55] (fun iv wr => ∃ (i : Nat) (rs : List Int), i ≤ N ∧ iv = .int .i64 i ∧ Aside0 (rs.length = n) ∧ Aside0 (Sep wc (Lk wc gs gd g ov4 outv o1 a1 e1 kept dat false false (errOf bad1) rs x) wr)) (fun iv _ => N - (intOf iv).toNat)
    case atStart => exact ⟨0, b, Nat.zero_le _, rfl, ⟨HN.out.symm⟩, S5⟩
    case round =>
      clear S5
      obtain ⟨i, rs, hi, rfl, HRL, HS⟩ := hrel
      by_cases hlt : i < N
      · have hd : decide ((i : Int) < (N : Int)) = true := decide_eq_true (by omega)
        have hd2 : decide (i < N) = true := decide_eq_true hlt
        have hbk := (HS.out.blk 3 rfl).1
        obtain ⟨x0, hcell⟩ : ∃ x0, wr.cell? ⟨g, i, none⟩ = some (.int .u8 x0) := ⟨_, (blk_cell hbk i).trans (nums_cell _ i (by rw [List.length_append, HRL.out]; omega))⟩
        have hfr := blk_frozen hbk i
        have HNX := Aside0.mk (show Sep wc (Lk wc gs gd g ov4 outv o1 a1 e1 kept dat false false (errOf bad1) (rs.set i 120) x) (wr.setCell ⟨g, i, none⟩ (.int .u8 120)) by
          have h := HS.out.blk_set 3 rfl i (.int .u8 120) rfl
          rw [Rm.nums_set, List.set_append_left i 120 (by rw [HRL.out]; omega)] at h
          exact h)
        have hni : (i : Int) < (n : Int) := by omega
        clear hbk HS
        go_wp2
        go_roundw
        case rel => exact ⟨i + 1, rs.set i 120, by omega, by go_num, ⟨by rw [List.length_set]; exact HRL.out⟩, HNX⟩
        case measure => simp [intOf]; omega
      · have hd : decide ((i : Int) < (N : Int)) = false := decide_eq_false (by omega)
        have hd2 : decide (i < N) = false := decide_eq_false hlt
        have S5 := HS
        clear HS HRL hi hlt
        obtain ⟨An, m1, m2⟩ := HCFR.out N hNn
        have HM2 := Aside0.mk m2
        clear m2 HCFR
        cases bad1 with
        | true =>
          have h6 : errOf true = 6 := rfl
          have ha : ans false 6 = 6 := rfl
          obtain ⟨Y, hY⟩ : ∃ Y : List SG, Y = [] := ⟨_, rfl⟩
          obtain ⟨Z, hZ⟩ : ∃ Z : List SG, Z = [] := ⟨_, rfl⟩
          obtain ⟨T, hT⟩ : ∃ T, T = (x ++ Y ++ Z).length := ⟨_, rfl⟩
          have hspl : splitF 64 b = (x ++ Y ++ Z, 6) := by
            have h := HSP.out
            rw [HBAD.out rfl, if_pos rfl] at h
            rw [hY, hZ]
            simpa using h
          have hlen := Sgr.splitF_len b HB.out (by rw [← HN.out]; omega) 64
          rw [hspl, ← HN.out] at hlen
          simp only [← hT] at hlen
          have HSPL := Aside0.mk hspl
          have HTL := Aside0.mk (show T ≤ 100000000 by omega)
          have HLX := Aside0.mk (show (x.length + 0) * 32 ≤ 140737488355328 by have := HXL.out; omega)
          have HLZ := Aside0.mk (show ((x ++ Y).length + 0) * 32 ≤ 140737488355328 by rw [hY]; have := HXL.out; simp; omega)
          have HT := Aside0.mk hT
          have STL := Aside0.mk (show Sep wc [blkT gs (segCells gd 64 ov4 a1 e1 false (errOf true)) TS, rowT K3 T3 wc.heap.size ov4 o1, decT gd wc.heap.size kept dat false, blkT g (nums .u8 (rs ++ List.replicate 4 0)).toArray 5, rowT kG TG wc.heap.size outv x, rowT kG TG wc.heap.size (.slice none 0 0) Y, rowT kG TG wc.heap.size (.slice none 0 0) Z] wr by rw [hY, hZ]; exact (S5.out.empty kG TG wc.heap.size).empty kG TG wc.heap.size)
          clear hT hspl hlen hY hZ
          go_upto_region 18 with (first | (go_at_call 15; go_must (refine (WriteEnd (S5.out.blk 0 rfl).1 (by decide) _ _ _).mono ?_; rintro E w5 ⟨rfl, rfl⟩)))
          have HSPR := Aside0.mk (SplitV wr A n c b 64 (Kd.C_below HC.out (below_then H1.out H1.out.size STL.out.below)) HN.out hc HB.out (by omega) _ _ HSPL.out)
          go_wp2_with (first | (go_at_call 21; go_must (refine HSPR.out.mono ?_; rintro E w6 ⟨vr, rfl, p0, p1⟩; have S6 := Aside0.mk (STL.out.newR p0 p1); clear p0 p1; obtain ⟨Ar, cr, rfl, hcr, -⟩ := Sep.reads (d := kG) (e := TG) (base := wc.heap.size) (v := vr) (xs := x ++ Y ++ Z) S6.out 7 rfl; obtain ⟨ok6, q1, q2, q3⟩ := Sep.row (d := kG) (e := TG) (base := wc.heap.size) (v := outv) (xs := x) S6.out 4 rfl; have s6 := S6.out.below.size; have Y6 := Aside0.mk (Sep.rows (d := kG) (e := TG) (base := wc.heap.size) (xs := Y) S6.out 5 rfl).2.2; have R6 := Aside0.mk q1; have F6 := Aside0.mk q2; have N6 := Aside0.mk q3; clear q1 q2 q3; rw [← HT.out] at hcr S6 N6 ⊢)) | (go_at_call 15; go_must (refine (WriteNil _ _ _ _).mono ?_; rintro E w7 ⟨rfl, rfl⟩)) | (go_at_call 20; go_must (refine (CloseNil _).mono ?_; rintro E w7 ⟨rfl, rfl⟩)) | (at_builtin; (try (refine gate_guard (by rfl) ?_; dsimp only)); go_must (refine Kd.R_append_rows kG (Rr := kG.K w6) (w0 := w6) wc.heap.size rfl (.tmp 104) (.tmp 105) 29 TG (.agg #[.string ⟨#[]⟩, .int .i64 0, .int .i64 0]) 32 rfl Tryd.underlying29 info67 rfl (by decide) (by decide) outv x Y none 0 0 ok6 (fun _ => False) rfl rfl R6.out Y6.out (fun x cs h => kG_KM x cs h) (fun _ h => h.elim) F6.out (Below.refl _ _) s6 HLX.out ?h1)))
          case h1 =>
            intro v7 w7 hR7 hb7 hg7 hat7
            have hS7 := N6.out v7 w7 _ hR7 hg7
            have S7 := Aside0.mk hS7
            obtain ⟨ok7, q1, q2, q3⟩ := Sep.row (d := kG) (e := TG) (base := wc.heap.size) (v := v7) (xs := x ++ Y) hS7 4 rfl
            have s7 := hS7.below.size
            have R7 := Aside0.mk q1
            have F7 := Aside0.mk q2
            have N7 := Aside0.mk q3
            have Z7 := Aside0.mk (Sep.rows (d := kG) (e := TG) (base := wc.heap.size) (xs := Z) hS7 6 rfl).2.2
            clear hS7 q1 q2 q3 hR7 hb7 hg7 hat7 R6 F6 N6 Y6
            go_wp2_with (at_builtin; (try (refine gate_guard (by rfl) ?_; dsimp only)); go_must (refine Kd.R_append_rows kG (Rr := kG.K w7) (w0 := w7) wc.heap.size rfl (.tmp 106) (.tmp 107) 29 TG (.agg #[.string ⟨#[]⟩, .int .i64 0, .int .i64 0]) 32 rfl Tryd.underlying29 info67 rfl (by decide) (by decide) v7 (x ++ Y) Z none 0 0 ok7 (fun _ => False) rfl rfl R7.out Z7.out (fun x cs h => kG_KM x cs h) (fun _ h => h.elim) F7.out (Below.refl _ _) s7 HLZ.out ?h2))
            case h2 =>
              intro v8 w8 hR8 hb8 hg8 hat8
              try rw [← List.append_assoc] at hR8
              have hS8 := N7.out v8 w8 _ hR8 hg8
              have S8 := Aside0.mk hS8
              obtain ⟨A8, c8, rfl, hc8, -⟩ := Sep.reads (d := kG) (e := TG) (base := wc.heap.size) (v := v8) (xs := x ++ Y ++ Z) hS8 4 rfl
              rw [← HT.out] at hc8 S8 ⊢
              clear hS8 hR8 hb8 hg8 hat8 R7 F7 N7 Z7
              go_wp2_with (first | (go_at_call 17; go_must (refine (SameSR w8 A8 Ar T c8 T cr (x ++ Y ++ Z) (x ++ Y ++ Z) (Sep.rows (d := kG) (e := TG) (base := wc.heap.size) (xs := x ++ Y ++ Z) S8.out 4 rfl).2.2 HT.out hc8 (Sep.rows (d := kG) (e := TG) (base := wc.heap.size) (xs := x ++ Y ++ Z) S8.out 7 rfl).2.2 HT.out hcr rfl (by have := HTL.out; omega)).mono ?_; rintro E w9 ⟨rfl, p1⟩; have S9 := Aside0.mk (S8.out.later p1); clear p1)) | (go_at_call 19; go_must (refine (ErrNil _).mono ?_; rintro E w10 ⟨rfl, rfl⟩)) | (go_at_call 18; go_must (refine (PendNil _).mono ?_; rintro E w10 ⟨rfl, rfl⟩)))
              go_ret
              exact ⟨rfl, below_then H1.out H1.out.size S9.out.below⟩
        | false =>
          have h6 : errOf false = 0 := rfl
          obtain ⟨q1, q2, q4, q5, q6⟩ := HF.out
          have hst := HAPP.out rfl
          have hdc2 := HDC2.out
          have hsp := HSP.out
          obtain ⟨⟨pts, kept2, dat2⟩, hDC⟩ : ∃ D, D = dc (kept ++ b2) dat := ⟨_, rfl⟩
          rw [← hDC] at hst hdc2
          simp only at hst hdc2
          obtain ⟨⟨Y, o2, a2, e2, bad2⟩, hR⟩ : ∃ R, R = tk 64 pts o1 a1 e1 := ⟨_, rfl⟩
          rw [← hR] at hst
          replace hst : St 64 b = (x ++ Y, o2, a2, e2, bad2) := hst
          have hob := st_facts 64 (by decide) b HB.out (by rw [← HN.out]; omega)
          rw [hst, hdc2] at hob
          simp only at hob
          rw [hst, hdc2] at hsp
          simp only at hsp
          have hlen := Sgr.splitF_len b HB.out (by rw [← HN.out]; omega) 64
          rw [← HN.out] at hlen
          have HOB := Aside0.mk hob
          have HSP2 := Aside0.mk hsp
          have HLEN := Aside0.mk hlen
          have HDC := Aside0.mk hDC.symm
          have HR := Aside0.mk hR.symm
          have HKB := Aside0.mk (show Bytes (kept ++ b2) from fun y hy => (List.mem_append.1 hy).elim (q6 y) (HB2.out y))
          have hkl : kept.length + (n - N) ≤ 100000000 := by omega
          have HDA := Aside0.mk (show 0 ≤ dat ∧ dat ≤ 1000000000000 by omega)
          have h64 : (64 : Int) ≤ 50000000 := by decide
          have HQ1 := Aside0.mk q1
          have HQ2 := Aside0.mk q2
          have HAN := Aside0.mk (show KB.C wr An (n - N) b2 by rw [HBE2.out]; exact HM2.out _ (Kd.C_below HC.out (below_then H1.out H1.out.size S5.out.below)))
          obtain ⟨nY, hnY⟩ : ∃ m, m = Y.length := ⟨_, rfl⟩
          have HNY := Aside0.mk hnY
          clear q1 q2 q4 q5 q6 hst hdc2 hsp hDC hR hob hlen hnY
          go_upto_if 75 with (first | (go_at_call 15; go_must (refine (WriteOk wc HG1.out wr gs gd 64 kept dat o1 a1 e1 _ (show Seg wc gs gd 64 kept dat false o1 a1 e1 false 0 [blkT g (nums .u8 (rs ++ List.replicate 4 0)).toArray 5, rowT kG TG wc.heap.size outv x] wr from ⟨ov4, S5.out⟩) An (n - N) (c - N) b2 HAN.out HKB.out hkl HDA.out h64 HQ1.out HQ2.out pts kept2 dat2 HDC.out).mono ?_; rw [HR.out]; rintro E w5 ⟨vy, rfl, ov5, hS5⟩; obtain ⟨AY, cY, rfl, hcY, -⟩ := Sep.reads (d := kG) (e := TG) (base := wc.heap.size) (v := vy) (xs := Y) hS5 5 rfl; have S6 := Aside0.mk hS5; clear hS5; rw [← HNY.out] at hcY S6 ⊢)))
          obtain ⟨W0, rfl⟩ : ∃ W0, W0 = wc := ⟨_, rfl⟩
          go_cut [13, 14] (fun v13 v14 wq => ∃ (F : Int) (AZ : Option Addr) (nZ cZ : Nat) (Z : List SG) (T0 T1 T2 T3 : Th), v13 = .int .i64 F ∧ v14 = .slice AZ nZ cZ ∧ Aside0 (nZ = Z.length) ∧ Aside0 (splitF 64 b = (x ++ Y ++ Z, F)) ∧ Aside0 (Sep W0 [T0, T1, T2, T3, rowT kG TG W0.heap.size outv x, rowT kG TG W0.heap.size (.slice AY nY cY) Y, rowT kG TG W0.heap.size (.slice AZ nZ cZ) Z] wq))
          case first =>
            cases bad2 with
            | true =>
              have h62 : errOf true = 6 := rfl
              go_wp2
              go_meet
              case rel => exact ⟨6, none, 0, 0, [], _, _, _, _, rfl, rfl, ⟨rfl⟩, ⟨by have h := HSP2.out; simp only [if_true] at h; rw [h]; simp⟩, ⟨S6.out.empty kG TG W0.heap.size⟩⟩
            | false =>
              obtain ⟨q1, q2, q3, q4, q5, q6⟩ := HOB.out
              obtain ⟨R, hRR⟩ : ∃ R, R = tk 64 (rest1 kept2 dat2) o2 a2 e2 := ⟨_, rfl⟩
              have hsp := HSP2.out
              rw [← hRR] at hsp
              obtain ⟨r3, hr3⟩ : ∃ r, r = fin R := ⟨_, rfl⟩
              obtain ⟨bad3, hb3⟩ : ∃ b, b = R.2.2.2.2 := ⟨_, rfl⟩
              rw [← hr3, ← hb3] at hsp
              have HCP := Aside0.mk (CloseOk W0 HG1.out w5 gs gd 64 kept2 dat2 o2 a2 e2 _ (show Seg W0 gs gd 64 kept2 dat2 false o2 a2 e2 false 0 [blkT g (nums .u8 (rs ++ List.replicate 4 0)).toArray 5, rowT kG TG W0.heap.size outv x, rowT kG TG W0.heap.size (.slice AY nY cY) Y] w5 from ⟨ov5, S6.out⟩) (by omega) (by omega) (by decide) (by decide) q1 q2)
              rw [← hRR] at HCP
              have HR3 := Aside0.mk hr3
              have HB3 := Aside0.mk hb3
              have HSP3 := Aside0.mk (show splitF 64 b = (x ++ Y ++ r3, errOf bad3) from by first | exact hsp | (simp only [Bool.false_eq_true, if_false] at hsp; exact hsp))
              clear q1 q2 q3 q4 q5 q6 hRR hsp hr3 hb3
              go_wp2_with (first | (go_at_call 20; go_must (refine HCP.out.mono ?_; unfold ClosePost; rw [← HR3.out, ← HB3.out]; rintro E w6 ⟨vz, rfl, ov6, hS6⟩; obtain ⟨AZ, cZ, rfl, hcZ, -⟩ := Sep.reads (d := kG) (e := TG) (base := W0.heap.size) (v := vz) (xs := r3) hS6 6 rfl; have S7 := Aside0.mk hS6; clear hS6)))
              go_meet
              case rel => exact ⟨errOf bad3, AZ, _, cZ, r3, _, _, _, _, rfl, rfl, ⟨rfl⟩, HSP3, S7⟩
          case rest =>
            obtain ⟨F, AZ, nZ, cZ, Z, T0, T1, T2, T3, rfl, rfl, HNZ, HSPL, STL⟩ := hcut
            obtain ⟨T, hT⟩ : ∃ T, T = (x ++ Y ++ Z).length := ⟨_, rfl⟩
            have hlen := HLEN.out
            rw [HSPL.out] at hlen
            simp only [← hT] at hlen
            have hTx : T = x.length + Y.length + Z.length := by rw [hT]; simp only [List.length_append]
            have HTL := Aside0.mk (show T ≤ 100000000 by omega)
            have HLX := Aside0.mk (show (x.length + nY) * 32 ≤ 140737488355328 by rw [HNY.out]; omega)
            have HLZ := Aside0.mk (show ((x ++ Y).length + nZ) * 32 ≤ 140737488355328 by rw [HNZ.out, List.length_append]; omega)
            have HT := Aside0.mk hT
            clear hT hTx hlen S6
            have STL2 := STL
            have HSPR := Aside0.mk (SplitV wc A n c b 64 (Kd.C_below HC.out (below_then H1.out H1.out.size STL.out.below)) HN.out hc HB.out (by omega) _ _ HSPL.out)
            go_wp2_with (first | (go_at_call 21; go_must (refine HSPR.out.mono ?_; rintro E w6 ⟨vr, rfl, p0, p1⟩; have S6 := Aside0.mk (STL.out.newR p0 p1); clear p0 p1; obtain ⟨Ar, cr, rfl, hcr, -⟩ := Sep.reads (d := kG) (e := TG) (base := W0.heap.size) (v := vr) (xs := x ++ Y ++ Z) S6.out 7 rfl; obtain ⟨ok6, q1, q2, q3⟩ := Sep.row (d := kG) (e := TG) (base := W0.heap.size) (v := outv) (xs := x) S6.out 4 rfl; have s6 := S6.out.below.size; have Y6 := Aside0.mk (Sep.rows (d := kG) (e := TG) (base := W0.heap.size) (xs := Y) S6.out 5 rfl).2.2; have R6 := Aside0.mk q1; have F6 := Aside0.mk q2; have N6 := Aside0.mk q3; clear q1 q2 q3; rw [← HT.out] at hcr S6 N6 ⊢)) | (go_at_call 15; go_must (refine (WriteNil _ _ _ _).mono ?_; rintro E w7 ⟨rfl, rfl⟩)) | (go_at_call 20; go_must (refine (CloseNil _).mono ?_; rintro E w7 ⟨rfl, rfl⟩)) | (at_builtin; (try (refine gate_guard (by rfl) ?_; dsimp only)); go_must (refine Kd.R_append_rows kG (Rr := kG.K w6) (w0 := w6) W0.heap.size rfl (.tmp 104) (.tmp 105) 29 TG (.agg #[.string ⟨#[]⟩, .int .i64 0, .int .i64 0]) 32 rfl Tryd.underlying29 info67 rfl (by decide) (by decide) outv x Y AY nY cY ok6 (fun _ => False) rfl rfl R6.out Y6.out (fun x cs h => kG_KM x cs h) (fun _ h => h.elim) F6.out (Below.refl _ _) s6 HLX.out ?h1)))
            case h1 =>
              intro v7 w7 hR7 hb7 hg7 hat7
              have hS7 := N6.out v7 w7 _ hR7 hg7
              have S7 := Aside0.mk hS7
              obtain ⟨ok7, q1, q2, q3⟩ := Sep.row (d := kG) (e := TG) (base := W0.heap.size) (v := v7) (xs := x ++ Y) hS7 4 rfl
              have s7 := hS7.below.size
              have R7 := Aside0.mk q1
              have F7 := Aside0.mk q2
              have N7 := Aside0.mk q3
              have Z7 := Aside0.mk (Sep.rows (d := kG) (e := TG) (base := W0.heap.size) (xs := Z) hS7 6 rfl).2.2
              clear hS7 q1 q2 q3 hR7 hb7 hg7 hat7 R6 F6 N6 Y6
              go_wp2_with (at_builtin; (try (refine gate_guard (by rfl) ?_; dsimp only)); go_must (refine Kd.R_append_rows kG (Rr := kG.K w7) (w0 := w7) W0.heap.size rfl (.tmp 106) (.tmp 107) 29 TG (.agg #[.string ⟨#[]⟩, .int .i64 0, .int .i64 0]) 32 rfl Tryd.underlying29 info67 rfl (by decide) (by decide) v7 (x ++ Y) Z AZ nZ cZ ok7 (fun _ => False) rfl rfl R7.out Z7.out (fun x cs h => kG_KM x cs h) (fun _ h => h.elim) F7.out (Below.refl _ _) s7 HLZ.out ?h2))
              case h2 =>
                intro v8 w8 hR8 hb8 hg8 hat8
                try rw [← List.append_assoc] at hR8
                have hS8 := N7.out v8 w8 _ hR8 hg8
                have S8 := Aside0.mk hS8
                obtain ⟨A8, c8, rfl, hc8, -⟩ := Sep.reads (d := kG) (e := TG) (base := W0.heap.size) (v := v8) (xs := x ++ Y ++ Z) hS8 4 rfl
                rw [← HT.out] at hc8 S8 ⊢
                clear hS8 hR8 hb8 hg8 hat8 R7 F7 N7 Z7
                go_wp2_with (first | (go_at_call 17; go_must (refine (SameSR w8 A8 Ar T c8 T cr (x ++ Y ++ Z) (x ++ Y ++ Z) (Sep.rows (d := kG) (e := TG) (base := W0.heap.size) (xs := x ++ Y ++ Z) S8.out 4 rfl).2.2 HT.out hc8 (Sep.rows (d := kG) (e := TG) (base := W0.heap.size) (xs := x ++ Y ++ Z) S8.out 7 rfl).2.2 HT.out hcr rfl (by have := HTL.out; omega)).mono ?_; rintro E w9 ⟨rfl, p1⟩; have S9 := Aside0.mk (S8.out.later p1); clear p1)) | (go_at_call 19; go_must (refine (ErrNil _).mono ?_; rintro E w10 ⟨rfl, rfl⟩)) | (go_at_call 18; go_must (refine (PendNil _).mono ?_; rintro E w10 ⟨rfl, rfl⟩)))
                go_ret
                exact ⟨rfl, below_then H1.out H1.out.size S9.out.below⟩
end Go.Proofs.YthffpkdadffinaaDoor.Lsk
namespace Go.Proofs.YthffpkdadffinaaDoor.X
set_option linter.unusedVariables false
set_option linter.unusedSimpArgs false
open Go.RowKit Go.Proofs.YthffpkdadffinaaDoorW.PrintWords Go.Proofs.YthffpkdadffinaaDoor.Vp0
def tremalaw04_SegKeeps.f (l : List Int) (_cut : Int) : Option Bool := if bytesB l = true ∧ l.length ≤ 1048576 then some true else none
theorem tremalaw04_SegKeeps.calls (A0 : Option Addr) (c0 : Nat) (l : List Int) (cut : Int) (r : Bool) (w : World) (hr0 : Kd.C (Kd.int .u8) w A0 l.length l) (hc0 : l.length ≤ c0) (h : tremalaw04_SegKeeps.f l cut = some r) (hG0 : Va.G w) :
  Calls Tryd.prog 4 #[.slice A0 l.length c0, .int .i64 cut] w fun e w' => e = .returned (.bool r) ∧ Below w.heap.size w w' := by
  unfold tremalaw04_SegKeeps.f at h
  split at h
  · rename_i hh
    cases Option.some.inj h
    exact Lsk.keeps w hG0 A0 l c0 hr0 hc0 (bytesB_of hh.1) hh.2 cut
  · cases h
theorem tremalaw04_SegKeeps.pure (l : List Int) (hwf : ∀ y ∈ l, (Lit.int .u8 y).wf = true) (hl : l.length ≤ 1048576) (cut : Int) (hlw : (Lit.int .i64 cut).wf = true) : tremalaw04_SegKeeps.f l cut = some true := by
  unfold tremalaw04_SegKeeps.f
  rw [if_pos ⟨Sgr.bytesB_mk (Ot.wf_bytes hwf), hl⟩]
end Go.Proofs.YthffpkdadffinaaDoor.X
namespace Go.Proofs.YthffpkdadffinaaDoor.Lv
set_option linter.unusedVariables false
set_option linter.unusedSimpArgs false
open Go.ChangeShapes Go.WideShapes Go.ChangeAt Go.RowKit Go.Proofs.YthffpkdadffinaaDoorW.PrintWords Go.Proofs.YthffpkdadffinaaDoor.Va
theorem ints_of_array {H : Type} {enc : TypeId × Value → H} {P : Program} {w : World} {base : Nat} {sp : Nat → Bool} {held : Bool} {fuel : Nat} {t e : TypeId} {k : IntKind} {n : Nat} {cs : List Value} {l : List Int} {p : List MemPlace}
    (ht : P.underlying t = some (.array n e)) (he : P.underlying e = some (.int k)) (hC : P.cellsOf e = 1) (hT : P.cellsOf t = n) (h : DataW.trod enc P w base sp held fuel t cs = some (.agg (l.map fun x => .lit (.int k x)), p)) : cs = nums k l := by
  obtain ⟨xs, m, -, hx, hl, hxl, hi⟩ := DataW.trod_array ht h
  obtain ⟨hx1, -⟩ := Prod.mk.inj hx
  injection hx1 with hx1
  have hln : l.length = n := by have := congrArg List.length hx1; simpa [hxl] using this
  rw [hT] at hl
  unfold nums
  refine List.ext_getElem (by simp [hl, hln]) fun i h1 h2 => ?_
  have hin : i < n := by omega
  have hxi := hi i hin
  rw [hC, Nat.mul_one, List.getElem?_eq_getElem (by omega : i < xs.length)] at hxi
  obtain ⟨z, e1, e2, -⟩ := DataW.trod_int he hxi
  have e3 : (xs[i]'(by omega)).1 = DataW.lit (.int k (l[i]'(by omega))) := by
    have := congrArg (fun q => q[i]?) hx1
    simp [List.getElem?_eq_getElem (show i < l.length by omega), List.getElem?_eq_getElem (show i < xs.length by omega)] at this
    exact this.symm
  rw [e2] at e3
  injection e3 with e3
  injection e3 with _ e3
  have e4 : cs[i]'h1 = .int k z := by
    rw [List.drop_eq_getElem_cons h1, List.take_succ_cons, List.take_zero] at e1
    exact (List.cons.inj e1).1
  rw [e4, List.getElem_map, e3]
theorem triples_of_array {H : Type} {enc : TypeId × Value → H} {P : Program} {w : World} {base : Nat} {sp : Nat → Bool} {held : Bool} {fuel : Nat} {t e e3 : TypeId} {n : Nat} {cs : List Value} {l : List (Int × Int × Int)} {p : List MemPlace}
    (ht : P.underlying t = some (.array n e)) (he : P.underlying e = some (.array 3 e3)) (he3 : P.underlying e3 = some (.int .i32)) (hC3 : P.cellsOf e3 = 1) (hC : P.cellsOf e = 3) (hT : P.cellsOf t = n * 3) (h : DataW.trod enc P w base sp held fuel t cs = some (.agg (l.map fun x => .agg ([x.1, x.2.1, x.2.2].map fun y => .lit (.int .i32 y))), p)) : cs = cells3 l := by
  obtain ⟨xs, m, -, hx, hl, hxl, hi⟩ := DataW.trod_array ht h
  obtain ⟨hx1, -⟩ := Prod.mk.inj hx
  injection hx1 with hx1
  have hln : l.length = n := by have := congrArg List.length hx1; simpa [hxl] using this
  rw [hT] at hl
  have key : ∀ i (hin : i < l.length), (cs.drop (i * 3)).take 3 = nums .i32 [l[i].1, l[i].2.1, l[i].2.2] := by
    intro i hin
    have hxi := hi i (by omega)
    rw [hC, List.getElem?_eq_getElem (by omega : i < xs.length)] at hxi
    have e3' : (xs[i]'(by omega)).1 = DataW.agg ([l[i].1, l[i].2.1, l[i].2.2].map fun y => .lit (.int .i32 y)) := by
      have := congrArg (fun q => q[i]?) hx1
      simp [List.getElem?_eq_getElem (show i < l.length by omega), List.getElem?_eq_getElem (show i < xs.length by omega)] at this
      exact this.symm
    rw [show xs[i]'(by omega) = ((xs[i]'(by omega)).1, (xs[i]'(by omega)).2) from rfl, e3'] at hxi
    exact ints_of_array he he3 hC3 hC hxi
  clear hi hx1 hx hxl ht h
  have go : ∀ (l : List (Int × Int × Int)) (cs : List Value), cs.length = l.length * 3 → (∀ i (hin : i < l.length), (cs.drop (i * 3)).take 3 = nums .i32 [l[i].1, l[i].2.1, l[i].2.2]) → cs = cells3 l := by
    intro l
    induction l with
    | nil => intro cs h1 _; exact List.eq_nil_of_length_eq_zero (by simpa using h1)
    | cons x r ih =>
      intro cs h1 h2
      have h0 := h2 0 (by simp)
      have hr := ih (cs.drop 3) (by rw [List.length_drop, h1]; simp; omega) (fun i hin => by
        have := h2 (i + 1) (by simp; omega)
        rw [List.drop_drop, show 3 + i * 3 = (i + 1) * 3 by omega]
        exact this)
      rw [Nat.zero_mul, List.drop_zero] at h0
      rw [← List.take_append_drop 3 cs, h0, hr]
      rfl
  exact go l cs (by omega) key
abbrev laid : List (String × DataW Unit) := [("trema/ucd.classes", Rows.laid_trema_ucd_classes), ("trema/ucd.pairs", Rows.laid_trema_ucd_pairs), ("trema/ucd.marks", Rows.laid_trema_ucd_marks)]
theorem d0 : (Rows.laid_trema_ucd_classes : DataW Unit) = .agg (clsT.map fun x => .agg ([x.1, x.2.1, x.2.2].map fun y => .lit (.int .i32 y))) := by kernel_rfl
theorem d1 : (Rows.laid_trema_ucd_pairs : DataW Unit) = .agg (prsT.map fun x => .agg ([x.1, x.2.1, x.2.2].map fun y => .lit (.int .i32 y))) := by kernel_rfl
theorem d2 : (Rows.laid_trema_ucd_marks : DataW Unit) = .agg (mksT.map fun y => .lit (.int .i32 y)) := by kernel_rfl
theorem door_met (os : Os) (args : Array Value) : laidMetH Tryd.prog laid ((World.doorLaid Tryd.prog 400 os).forCall (fun _ _ => 0) ⟨#[], args, []⟩).memory :=
  laidMetH_of_parts3 (fuel := 8) (laidMet_of_run' 8 (by kernel_rfl) (by kernel_rfl)) (by kernel_rfl) (by kernel_rfl)
theorem of_laid {W : World} (h : laidMetH Tryd.prog laid W) : G W := by
  rw [MakeChecks.laidMetH_plain _ _ _ (by kernel_rfl)] at h
  obtain ⟨ps, ⟨g0, t0, cs0, f0, p0, q0, hg0, ht0, hv0, hd0, ⟨g1, t1, cs1, f1, p1, q1, hg1, ht1, hv1, hd1, ⟨g2, t2, cs2, f2, p2, q2, hg2, ht2, hv2, hd2, _, _⟩, _⟩, _⟩, _, _⟩ := h
  obtain rfl := Option.some.inj ((show Tryd.prog.globalNamed "trema/ucd.classes" = some 1 by kernel_rfl).symm.trans hg0)
  obtain rfl := Option.some.inj ((show Tryd.prog.globalNamed "trema/ucd.pairs" = some 0 by kernel_rfl).symm.trans hg1)
  obtain rfl := Option.some.inj ((show Tryd.prog.globalNamed "trema/ucd.marks" = some 2 by kernel_rfl).symm.trans hg2)
  obtain rfl := Option.some.inj ((show (Tryd.prog.globals[1]?).map (·.type) = some 113 by kernel_rfl).symm.trans ht0)
  obtain rfl := Option.some.inj ((show (Tryd.prog.globals[0]?).map (·.type) = some 111 by kernel_rfl).symm.trans ht1)
  obtain rfl := Option.some.inj ((show (Tryd.prog.globals[2]?).map (·.type) = some 123 by kernel_rfl).symm.trans ht2)
  rw [d0] at hd0
  rw [d1] at hd1
  rw [d2] at hd2
  have c0 := triples_of_array Tryd.underlying113 Tryd.underlying110 Tryd.underlying21 (by kernel_rfl) (by kernel_rfl) (by kernel_rfl) hd0
  have c1 := triples_of_array Tryd.underlying111 Tryd.underlying110 Tryd.underlying21 (by kernel_rfl) (by kernel_rfl) (by kernel_rfl) hd1
  have c2 := ints_of_array Tryd.underlying123 Tryd.underlying21 (by kernel_rfl) (by kernel_rfl) hd2
  refine ⟨fun j v hv => ?_, fun j v hv => ?_, fun j v hv => ?_⟩
  · have := World.var?_cell hg0 hv0 j
    rw [← Array.getElem?_toList, c0, hv] at this
    simpa using this
  · have := World.var?_cell hg1 hv1 j
    rw [← Array.getElem?_toList, c1, hv] at this
    simpa using this
  · have := World.var?_cell hg2 hv2 j
    rw [← Array.getElem?_toList, c2, hv] at this
    simpa using this
end Go.Proofs.YthffpkdadffinaaDoor.Lv
namespace Go.Proofs.YthffpkdadffinaaDoor.segKeeps
open Go.ChangeShapes Go.WideShapes Go.ChangeAt Go.RowKit
open Go.ChangeMaps (open_string shut_string)
set_option linter.unusedVariables false
set_option linter.unusedSimpArgs false
theorem own : ownKnob Tryd.prog.godebug = none := by kernel_rfl
theorem laidOut : laidOutB Tryd.prog = true := by kernel_rfl
set_option maxRecDepth 100000 in
theorem contract (H : Type) (enc : TypeId × Value → H) (W : World) (base : Nat) (args : Array Value) (ds gs : List (DataW H)) (before : List MemPlace)
    (hval0 : ∀ (j : Nat) t v, Tryd.f4.params[j]? = some t → args[j]? = some v → Value.okWide Tryd.prog W .any base t v)
    (hW : DataW.Whole enc Tryd.prog Tryd.f4.params.toList Rows.segKeepsSpec.vars false W args.toList ds gs before)
    (hL : laidMetH Tryd.prog Lv.laid W)
    (hk0 : Rows.uptoSmall H (ds ++ gs) = true) :
    Calls Tryd.prog 4 args W fun e W' => ∃ v, e = .returned v ∧ Rows.segKeepsSpec.post enc Tryd.prog Tryd.f4 false true false false W args v W' := by
  have hkb : Rows.uptoBulkAll (ds ++ gs) ≤ 1048576 := of_decide_eq_true hk0
  have hval : ∀ (j : Nat) t v, Tryd.f4.params[j]? = some t → args[j]? = some v → Value.okWide Tryd.prog W .any base t v := hval0
  have hW' := hW
  obtain ⟨p, q, hA0, hV, rfl, hfz, hnd⟩ := hW
  have hA : DataW.TrodAll enc Tryd.prog W 0 (fun _ => true) true Tryd.f4.params.toList args.toList ds p := hA0
  rw [Tryd.params4] at hA hval
  obtain ⟨v0, vs0, d0, ds0, p0, q0, hargs, rfl, rfl, h0, r0⟩ := trodAll_cons hA
  obtain ⟨v1, vs1, d1, ds1, p1, q1, rfl, rfl, rfl, h1, r1⟩ := trodAll_cons r0
  obtain ⟨rfl, rfl, rfl⟩ := trodAll_nil r1
  obtain rfl : args = #[v0, v1] := by cases args; simp_all
  obtain ⟨rfl, rfl⟩ := trodVars_none hV
  have k0 := h0
  have lt0 : ∀ x ∈ p0, x.block < W.heap.size := by obtain ⟨m, hm⟩ := k0; exact DataW.trod_lt m _ _ _ hm
  obtain ⟨A0, xs0, c0, rfl, hc0, hC0, hw0, hb0, hz0⟩ := Od.arg_slice Tryd.underlying23 (by kernel_rfl) (Od.opens_int Tryd.underlying5) (hval 0 23 v0 rfl rfl) h0
  obtain ⟨a1, rfl, rfl, rfl, w1⟩ := open_int Tryd.underlying3 (hval 1 3 v1 rfl rfl) h1
  simp only [List.append_nil, Rows.uptoBulkAll] at hkb
  have hB0 := Nat.le_trans (Nat.le_trans (Nat.le_succ _) hb0) (show Rows.uptoBulk d0 ≤ 1048576 by omega)
  clear hA0 hval0 hk0
  have hk := Go.Proofs.YthffpkdadffinaaDoor.X.tremalaw04_SegKeeps.pure xs0 hw0 (Nat.le_trans (Od.sumB_len (fun _ => Nat.le_refl _) _) hB0) a1 w1
  refine (Go.Proofs.YthffpkdadffinaaDoor.X.tremalaw04_SegKeeps.calls A0 c0 xs0 a1 true W hC0 hc0 hk (Lv.of_laid hL)).mono fun e W' ⟨he, bel⟩ => ?_
  subst he
  exact ⟨_, rfl, _, _, _, [], _, [], hW', trodAll_mk1 (shut_bool Tryd.underlying4 _), (trodAll_cons_mk (Below.trod laidOut (by kernel_rfl) (of_decide_eq_true (by kernel_rfl)) k0 bel lt0) (trodAll_cons_mk (shut_int Tryd.underlying3 w1) trodAll_mk0)), rfl, bel.frame _, fun h => by cases h⟩
set_option maxRecDepth 100000 in
theorem lifted (os : Os) (started : os.Started) (H : Type) (enc : TypeId × Value → H) (F : Stop.Interp) :
    ReturnsInHanded {} Tryd.checked os 4 .any ((Rows.OpenSpec.upto Rows.segKeepsSpec).preRow enc Tryd.prog Tryd.f4 Rows.segKeepsUptoRow.domain false Rows.segKeepsUptoRow.laid) (((Rows.OpenSpec.upto Rows.segKeepsSpec).at F).post enc Tryd.prog Tryd.f4 false true false false) := by
  refine returnsInHanded_of_row (C := Tryd.checked) (s := Rows.OpenSpec.upto Rows.segKeepsSpec) own started (by kernel_rfl) Tryd.func4
    (witness_row_atRef (enc := enc) (C := Tryd.checked) false (World.doorLaid Tryd.prog 400 os) #[(.slice none 0 0), (.int .i64 0)] rfl (by kernel_rfl) (by kernel_rfl) (by kernel_rfl)
      (OpenSpec.preRow_of_cond (x := ([.nil, .lit (.int .i64 0)], [], [])) 8 (by kernel_rfl) (by kernel_rfl) (fun k hk => by cases hk; kernel_rfl) (by kernel_rfl) (Lv.door_met os _))) ?_
  intro W base args ds gs before hval hW _ hcond _ hL _ _
  exact contract H enc W base args ds gs before hval hW hL (hcond _ rfl)
theorem proved : Rows.SegKeepsUptoSaid :=
  OpenClaim.holds_of_cond 4 Tryd.f4 rfl rfl rfl rfl rfl rfl rfl ⟨rfl, rfl, rfl, rfl, rfl⟩ rfl rfl rfl rfl rfl (by kernel_rfl) Tryd.func4 (by kernel_rfl)
    (of_decide_eq_true (by kernel_rfl)) (by unfold Func.isWrapper; first | (rw [if_pos (by decide +kernel)]; kernel_rfl) | (rw [if_neg (by decide +kernel)]; exact ⟨rfl, rfl⟩))
    (fun os started H enc _ F => by rw [OpenClaim.pre_eq_preRow]; exact lifted os started H enc F)
end Go.Proofs.YthffpkdadffinaaDoor.segKeeps
namespace Go.Proofs.YthffpkdadffinaaDoor
theorem segKeeps_holds : Rows.SegKeepsUptoCardSaid :=
  Claim7.holds_tied_plain_at .later [] [.data, .data, .data] true (true, "40dec18509303b2ee17917badb52d4e1cd75dc8afa2e2cbc1ad49e1a0b909216") false
    segKeeps.proved (fun _ h => by cases h) (by kernel_rfl) (fun _ h => by cases h) segKeepsUpto_row_tie rfl ⟨rfl, rfl⟩ (by kernel_rfl) rfl
    (fun f fn hf hfn => by
      obtain rfl : f = 4 := Option.some.inj ((show Tryd.prog.funcNamed "trema/tremalaw04.SegKeeps" = some 4 by kernel_rfl).symm.trans hf) |>.symm
      obtain rfl : fn = Tryd.f4 := (Option.some.inj (Tryd.func4.symm.trans hfn)).symm
      exact ⟨by kernel_rfl, fun j t ht => by
        rw [Tryd.params4] at ht
        have hm : t ∈ [23, 3] := by simpa using Array.mem_of_getElem? ht
        have hall : ([23, 3].all fun u => !Tryd.prog.wantsStandIn u) = true := by kernel_rfl
        exact (show Tryd.prog.wantsStandIn t = false by simpa using List.all_eq_true.1 hall t hm)⟩)
    (by kernel_rfl)
#print axioms segKeeps_holds
end Go.Proofs.YthffpkdadffinaaDoor
