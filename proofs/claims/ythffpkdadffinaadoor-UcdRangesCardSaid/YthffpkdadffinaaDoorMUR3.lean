/-
  Several texts of this claim in one: what its law's proof uses.
-/
import Derived.Test.YthffpkdadffinaaDoorMUR2
import Derived.Test.YthffpkdadffinaaDoorMUR0
import Derived.WalkSpells
namespace Go.Proofs.YthffpkdadffinaaDoor.Fm
set_option linter.unusedVariables false
set_option linter.unusedSimpArgs false
open Go.RowKit Go.Proofs.YthffpkdadffinaaDoorW.PrintWords Go.Proofs.YthffpkdadffinaaDoor.Hp
section
variable {w0 w w' : World} {L L' M : List Th}
end
def blkT (g : Nat) (cells : Array Value) (t : TypeId) : Th :=
  ⟨fun ok w => ok g ∧ w.heap[g]? = some (.cells cells t (0, 0)), fun h hm => ⟨h.1, (hm g h.1 (blk_lt h.2)).trans h.2⟩, fun h => ⟨⟨h.1, blk_lt h.2⟩, h.2⟩⟩
section
variable {w0 w w' : World} {L : List Th} {g : Nat} {cells cells' : Array Value} {t : TypeId}
theorem Sep.blk (h : Sep w0 L w) (i : Nat) (hi : L[i]? = some (blkT g cells t)) : w.heap[g]? = some (.cells cells t (0, 0)) ∧ w0.heap.size ≤ g := by
  obtain ⟨ok, h1, h2, _⟩ := h.op i _ hi
  exact ⟨h1.2, h2 g h1.1⟩
theorem Sep.blk_chg (h : Sep w0 L w) (i : Nat) (hi : L[i]? = some (blkT g cells t)) (hc : w'.heap[g]? = some (.cells cells' t (0, 0))) (hch : Chg (fun b => b = g) w w') :
    Sep w0 (L.set i (blkT g cells' t)) w' := by
  obtain ⟨ok, h1, h2, h3⟩ := h.op i _ hi
  exact h3 w' (blkT g cells' t) ok ⟨h1.1, hc⟩ (fun b hb => .inl hb) (hch.mono (fun k _ hk => by rw [hk]; exact h1.1))
theorem Sep.blk_set (h : Sep w0 L w) (i : Nat) (hi : L[i]? = some (blkT g cells t)) (j : Nat) (u : Value) (hc : cells' = cells.setIfInBounds j u) : Sep w0 (L.set i (blkT g cells' t)) (w.setCell ⟨g, j, none⟩ u) := by
  subst hc
  exact h.blk_chg i hi (Go.Proofs.YthffpkdadffinaaDoorW.PrintWords.blk_set (h.blk i hi).1 j u) ((Chg.refl (fun b => b = g) w).setCell (p := ⟨g, j, none⟩) (.inl rfl) u)
theorem Sep.blk_new (h : Sep w0 L w) (cells : Array Value) (t : TypeId) : Sep w0 (L ++ [blkT w.heap.size cells t]) (w.alloc (.cells cells t)) :=
  h.new (blkT w.heap.size cells t) (ok := fun b => b = w.heap.size) ⟨rfl, heap_alloc_new w _⟩ (fun b hb => by rw [hb]; exact Nat.le_refl _) (below_alloc (Below.refl _ _) _)
theorem Sep.rows {α : Type} {d : Kd α} {e base : Nat} {A : Option Addr} {m c : Nat} {xs : List α} (h : Sep w0 L w) (i : Nat) (hi : L[i]? = some (rowT d e base (.slice A m c) xs)) : m = xs.length ∧ m ≤ c ∧ d.C w A m xs := by
  obtain ⟨ok, h1⟩ := h.one i _ hi
  have := Kd.R_reads' (show d.R e w base ok (.slice A m c) xs from h1)
  exact ⟨this.1, this.2.1, this.1 ▸ this.2.2⟩
theorem Sep.newR {α : Type} {d : Kd α} {e : Nat} (h : Sep w0 L w) {v : Value} {xs : List α} (p1 : d.R e w' w.heap.size (fun _ => True) v xs) (p2 : Below w.heap.size w w') : Sep w0 (L ++ [rowT d e w0.heap.size v xs]) w' :=
  h.new (rowT d e w0.heap.size v xs) (ok := fun b => w.heap.size ≤ b) (Kd.R_lower (Kd.R_mono (Kd.R_bound p1) (fun k hk => hk.2.1)) h.below.size) (fun _ hb => hb) p2
end
end Go.Proofs.YthffpkdadffinaaDoor.Fm
namespace Go.Proofs.YthffpkdadffinaaDoor.Vk
set_option linter.unusedVariables false
set_option linter.unusedSimpArgs false
open Go.RowKit Go.Proofs.YthffpkdadffinaaDoorW.PrintWords Go.Proofs.YthffpkdadffinaaDoor.Hp Go.Proofs.YthffpkdadffinaaDoor.Fm Go.Proofs.YthffpkdadffinaaDoor.X Go.Proofs.YthffpkdadffinaaDoor.Vb Go.Proofs.YthffpkdadffinaaDoor.Vk0 Go.Proofs.YthffpkdadffinaaDoor.Vks
abbrev TR : Nat := 46
theorem kR_KM {w w' : World} {base : Nat} {ok : Nat → Prop} (x : SR) (cs : List Value) (h : kR.K w x cs) : kR.M w' base ok x cs := by
  obtain rfl := k46_open h
  exact k46_mkM _ _ _ _
theorem allL_len : ∀ k : Fin 7, (allL k.1).length ≤ 1000 := by decide +kernel
theorem lst_len2 : ∀ k : Fin 7, (lst ((k.1 : Nat) : Int)).length ≤ 1000 := by decide +kernel
set_option maxRecDepth 100000 in
set_option maxHeartbeats 8000000 in
theorem RangesP (w : World) (c : Int) : Calls Tryd.prog 23 #[.int .i64 c] w fun e w' => ∃ v, e = .returned v ∧ Kd.R kR TR w' w.heap.size (fun _ => True) v (rgs c) ∧ Below w.heap.size w w' := by
  by_cases hc : c = 7
  · have hrg : rgs c = RC := by unfold rgs; rw [if_pos hc]
    have HRG := Aside0.mk hrg
    subst hc
    have FL := Aside0.mk (fun (k : Int) (W : World) => ucd_listed.calls k (lst k) W (lst_any k))
    clear hrg
    go_enter Tryd.func23, Tryd.ntmps23
    go_wp2
    go_loopw [3, 4] (fun v3 v4 wr => ∃ k : Nat, k ≤ 6 ∧ v4 = .int .i64 ((k : Int) + 1) ∧ Aside0 (Sep w [rowT kR TR w.heap.size v3 (allL k)] wr)) (fun _ v4 _ => 8 - (intOf v4).toNat)
    case atStart => exact ⟨0, by omega, rfl, ⟨(Sep.nil w).newR (Kd.R_nil _ _ _ _ _) (Below.refl _ _)⟩⟩
    case round =>
      obtain ⟨k, hk, rfl, HS⟩ := hrel
      by_cases hlt : k < 6
      · have hd : decide ((k : Int) + 1 < 7) = true := decide_eq_true (by omega)
        have h1 := lst_len2 ⟨k + 1, by omega⟩
        have h2 := allL_len ⟨k, by omega⟩
        have e1 : ((k : Int) + 1) = ((k + 1 : Nat) : Int) := by omega
        have HT := Aside0.mk (show ((allL k).length + (lst ((k : Int) + 1)).length) * 8 ≤ 140737488355328 by rw [e1]; simp only at h1 h2; omega)
        have E1 := Aside0.mk e1
        clear h1 h2 e1
        go_wp2_with (first | (go_at_call 61; go_must (refine (FL.out _ wr).mono ?_; rintro E w2 ⟨v, rfl, p0, p1⟩; obtain ⟨A2, c2, rfl, hc2, hC2⟩ := Kd.R_reads p0; have C2 := Aside0.mk hC2; have S2 := Aside0.mk (HS.out.later p1); clear p0 p1 hC2)) | ((with_reducible refine gate_builtin (b := .append) (xs := #[.tmp 17, .tmp 19]) rfl ?_); at_builtin; go_must (obtain ⟨ok_, q1, q2, q3⟩ := Sep.row (d := kR) (e := TR) (base := w.heap.size) (v := u3) (xs := (allL k)) S2.out 0 rfl; (refine Kd.R_append_rows kR (Rr := kR.K w2) (w0 := w2) w.heap.size rfl (.tmp 17) (.tmp 19) 43 TR (.agg #[.int .i32 0, .int .i32 0]) 8 rfl Tryd.underlying43 info46 rfl (by decide) (by decide) u3 (allL k) (lst ((k : Int) + 1)) A2 (lst ((k : Int) + 1)).length c2 ok_ (fun _ => False) rfl rfl q1 C2.out (fun x cs h => kR_KM x cs h) (fun _ h => h.elim) q2 (Below.refl _ _) S2.out.below.size HT.out ?_); intro v1 w1 hR_ hb_ hg_ hat_; have S3 := Aside0.mk (q3 v1 w1 _ hR_ hg_); clear hR_ hb_ hg_ hat_ q1 q2 q3)))
        go_roundw
        case rel => exact ⟨k + 1, by omega, by simp, ⟨by have h := S3.out; rw [allL_succ, ← E1.out]; exact h⟩⟩
        case measure => simp [intOf]; omega
      · obtain rfl : k = 6 := by omega
        have hd : decide (((6 : Nat) : Int) + 1 < 7) = false := by decide
        have HS6 : Sep w [rowT kR TR w.heap.size u3 D0] wr := HS.out
        obtain ⟨N, hN⟩ : ∃ N, N = D0.length := ⟨_, rfl⟩
        have hN1 : N ≤ 1000 := by rw [hN]; exact D0_len
        obtain ⟨A, cA, hu, hcA, hCA⟩ := Sep.reads (d := kR) (e := TR) (base := w.heap.size) (v := u3) (xs := D0) HS6 0 rfl
        obtain ⟨ok5, q1, -, -⟩ := Sep.row (d := kR) (e := TR) (base := w.heap.size) (v := u3) (xs := D0) HS6 0 rfl
        obtain ⟨inner, hown⟩ := Kd.R_own q1
        rcases hown.2 with ⟨hv, h0⟩ | ⟨g, cap, cur, hv, hg, hbk, -⟩
        · exact absurd h0 (by decide +kernel)
        · subst hu
          rw [← hN] at hv hCA hcA
          obtain ⟨rfl, rfl⟩ : A = some ⟨g, 0, none⟩ ∧ cA = cap := by simpa using hv
          have FS := Aside0.mk (SortP wr g cA N cur TR D0 hCA hN hbk hN1 D1 D1_rise (srtR_perm D0))
          have HB0 := Aside0.mk HS6.below
          have HGG := Aside0.mk hg
          have HN1 := Aside0.mk (show N = D1.length by rw [hN, D1_len])
          clear hown hv q1 hbk hCA HS HS6 hg hlt
          rw [← hN]
          clear hN
          go_upto_region 9 with (go_at_call 62; go_must (refine FS.out.mono ?_; rintro E w3 ⟨rfl, p1, p2⟩; have P2 := Aside0.mk p2; have H3 := Aside0.mk (HB0.out.trans (p1.mono HGG.out)); clear p1 p2))
          go_wp2
          clear FS HB0 HGG
          go_loopw [5, 6, 25] (fun v5 v6 v25 wr => ∃ i : Nat, i ≤ N ∧ v25 = .int .i64 i ∧ v6 = .int .i32 (stR i).2 ∧ Aside0 (Sep w3 [rowT kR TR w3.heap.size v5 (stR i).1] wr)) (fun _ _ v25 _ => N - (intOf v25).toNat)
          case atStart => exact ⟨0, Nat.zero_le _, rfl, rfl, ⟨(Sep.nil w3).newR (Kd.R_nil _ _ _ _ _) (Below.refl _ _)⟩⟩
          case round =>
            obtain ⟨i, hi, rfl, rfl, HS⟩ := hrel
            have hat := stR_at i (by rw [← HN1.out]; exact hi)
            by_cases hlt : i < N
            · have hd : decide ((i : Int) < (N : Int)) = true := decide_eq_true (by omega)
              have hd' : decide (i < N) = true := decide_eq_true hlt
              have hil : i < D1.length := by rw [← HN1.out]; exact hlt
              have hst := stR_succ i hil
              obtain ⟨z0, z1⟩ := P2.out i hil
              have hx := of_decide_eq_true (List.all_eq_true.1 D1_ok D1[i] (List.getElem_mem hil))
              obtain ⟨x, hxe⟩ : ∃ x, x = D1[i] := ⟨_, rfl⟩
              rw [← hxe] at z0 z1 hx hst
              obtain ⟨lo, hi2⟩ := x
              obtain ⟨p, hp⟩ : ∃ p, p = stR i := ⟨_, rfl⟩
              rw [← hp] at hat HS hst ⊢
              obtain ⟨os, a⟩ := p
              simp only at z0 z1 hx hat HS ⊢
              have z0 := cell_later HS.out.below z0
              have z1 := cell_later HS.out.below z1
              have hn0 : (0 : Int) ≤ (i : Int) := by omega
              have hn1 : (i : Int) < (N : Int) := by omega
              have HST := Aside0.mk hst
              have HAT := Aside0.mk hat
              have HXX := Aside0.mk hx
              have e0 : (⟨g, 0, none⟩ : Addr).add (i * 2) = ⟨g, i * 2, none⟩ := by
                unfold Addr.add
                split
                · rename_i h0; rw [h0]
                · simp
              have f1 : wrap32 (lo - 1) = lo - 1 := by unfold wrap32; omega
              have f2 : wrap32 (hi2 + 1) = hi2 + 1 := by clear f1; unfold wrap32; omega
              have f3 : IntKind.i32.wrap (lo - 1) = lo - 1 := by clear f1 f2; rw [IntKind.wrap_i32]; omega
              have f4 : IntKind.i32.wrap (hi2 + 1) = hi2 + 1 := by clear f1 f2 f3; rw [IntKind.wrap_i32]; omega
              have F1 := Aside0.mk (And.intro f1 (And.intro f2 (And.intro f3 f4)))
              have HT := Aside0.mk (show (os.length + ([(⟨a, lo - 1⟩ : SR)] : List SR).length) * 8 ≤ 140737488355328 by clear f1 f2 f3 f4; simp; omega)
              clear hxe hp hst hx f1 f2 f3 f4
              go_upto_region 14 with (fail)
              obtain ⟨w4, hw4⟩ : ∃ w4, w4 = wr.alloc (.cells #[.int .i32 lo, .int .i32 hi2] TR) := ⟨_, rfl⟩
              obtain ⟨pb, hpb⟩ : ∃ pb, pb = wr.heap.size := ⟨_, rfl⟩
              have hbk : w4.heap[pb]? = some (.cells #[.int .i32 lo, .int .i32 hi2] TR (0, 0)) := by rw [hw4, hpb]; exact heap_alloc_new wr _
              have S1 := Aside0.mk (show Sep w3 [rowT kR TR w3.heap.size u5 os, blkT pb #[.int .i32 lo, .int .i32 hi2] TR] w4 from by rw [hw4, hpb]; exact HS.out.blk_new _ _)
              rw [← hw4, ← hpb]
              have c0 := blk_cell hbk 0
              have c1 := blk_cell hbk 1
              have HBK := Aside0.mk hbk
              clear hw4 hpb z0 z1 e0 hbk hat
              by_cases hgt : lo > a
              · have d1 : decide (lo > a) = true := decide_eq_true hgt
                have d1' : decide (a < lo) = true := decide_eq_true hgt
                have HNX := Aside0.mk (show stR (i + 1) = (os ++ [⟨a, lo - 1⟩], hi2 + 1) by rw [HST.out]; unfold stepR; simp only [if_pos hgt])
                clear hgt
                obtain ⟨-, -, f3, -⟩ := F1.out
                go_upto_region 16 with (first | ((with_reducible refine gate_dst (N := 39) rfl ?_); refine Kd.R_lit kR _ TR ?hg (N := 39) ?hd (xs := ([(⟨a, lo - 1⟩ : SR)] : List SR)) (inner := [.int .i32 (a), .int .i32 (lo - 1)]) (ok := fun _ => True) (okp := fun _ => True) ?hr (Reps.c2 ?hm (Reps.none _ _)) (fun _ hk => hk) trivial (Below.refl _ _) (Nat.le_refl _) (by simp) ?_; (case hd => rfl); (case hg => rfl); (case hr => first | (go_simp; done) | (go_simp; rfl)); (case hm => exact k46_mkM _ _ _ _); intro v2 w2 hR_ hb_ hg_ hnew_; obtain ⟨A2, c2, rfl, hc2, hC2⟩ := Kd.R_reads hR_; have C2 := Aside0.mk hC2; have S2 := Aside0.mk (S1.out.later hb_); clear hR_ hb_ hg_ hnew_ hC2) | ((with_reducible refine gate_builtin (b := .append) (xs := #[.tmp 33, .tmp 39]) rfl ?_); at_builtin; go_must (obtain ⟨ok_, q1, q2, q3⟩ := Sep.row (d := kR) (e := TR) (base := w3.heap.size) (v := u5) (xs := os) S2.out 0 rfl; (refine Kd.R_append_rows kR (Rr := kR.K w2) (w0 := w2) w3.heap.size rfl (.tmp 33) (.tmp 39) 43 TR (.agg #[.int .i32 0, .int .i32 0]) 8 rfl Tryd.underlying43 info46 rfl (by decide) (by decide) u5 os ([(⟨a, lo - 1⟩ : SR)] : List SR) A2 ([(⟨a, lo - 1⟩ : SR)] : List SR).length c2 ok_ (fun _ => False) rfl rfl q1 C2.out (fun x cs h => kR_KM x cs h) (fun _ h => h.elim) q2 (Below.refl _ _) S2.out.below.size HT.out ?_); intro v1 w1 hR_ hb_ hg_ hat_; have S3 := Aside0.mk (q3 v1 w1 _ hR_ hg_); clear hR_ hb_ hg_ hat_ q1 q2 q3)))
                clear f3 c0 c1
                have hb3 := (Sep.blk S3.out 1 rfl).1
                have c0 := blk_cell hb3 0
                have c1 := blk_cell hb3 1
                have S4 := Aside0.mk (show Sep w3 [rowT kR TR w3.heap.size v1 (os ++ [⟨a, lo - 1⟩])] w1 from Sep.init S3.out)
                have f4 := F1.out.2.2.2
                clear hb3
                go_wp2
                go_roundw
                case rel => exact ⟨i + 1, by omega, by clear f4; go_num, by rw [HNX.out], ⟨by rw [HNX.out]; exact S4.out⟩⟩
                case measure => clear f4; simp [intOf]; omega
              · have d1 : decide (lo > a) = false := decide_eq_false hgt
                have d1' : decide (a < lo) = false := decide_eq_false hgt
                have HNX := Aside0.mk (show stR (i + 1) = (os, hi2 + 1) by rw [HST.out]; unfold stepR; simp only [if_neg hgt])
                obtain ⟨-, -, -, f4⟩ := F1.out
                clear hgt
                go_wp2
                go_roundw
                case rel => exact ⟨i + 1, by omega, by clear f4; go_num, by rw [HNX.out], ⟨by rw [HNX.out]; exact Sep.init S1.out⟩⟩
                case measure => clear f4; simp [intOf]; omega
            · obtain rfl : i = N := by omega
              have hd : decide ((i : Int) < (i : Int)) = false := decide_eq_false (by omega)
              have hd2 : decide (i < i) = false := decide_eq_false (by omega)
              obtain ⟨p, hp⟩ : ∃ p, p = stR i := ⟨_, rfl⟩
              have hRC : RC = p.1 ++ [⟨p.2, 1114111⟩] := by unfold RC; rw [hp, HN1.out]
              rw [← hp] at hat HS ⊢
              obtain ⟨os, a⟩ := p
              simp only at hat HS hRC ⊢
              have HRC := Aside0.mk hRC
              have HT := Aside0.mk (show (os.length + ([(⟨a, 1114111⟩ : SR)] : List SR).length) * 8 ≤ 140737488355328 by simp; omega)
              have H3B := Aside0.mk H3.out.size
              clear hRC hp hat
              go_wp2_with (first | ((with_reducible refine gate_dst (N := 48) rfl ?_); refine Kd.R_lit kR _ TR ?hg (N := 48) ?hd (xs := ([(⟨a, 1114111⟩ : SR)] : List SR)) (inner := [.int .i32 (a), .int .i32 (1114111)]) (ok := fun _ => True) (okp := fun _ => True) ?hr (Reps.c2 ?hm (Reps.none _ _)) (fun _ hk => hk) trivial (Below.refl _ _) (Nat.le_refl _) (by simp) ?_; (case hd => rfl); (case hg => rfl); (case hr => first | (go_simp; done) | (go_simp; rfl)); (case hm => exact k46_mkM _ _ _ _); intro v2 w2 hR_ hb_ hg_ hnew_; obtain ⟨A2, c2, rfl, hc2, hC2⟩ := Kd.R_reads hR_; have C2 := Aside0.mk hC2; have S2 := Aside0.mk (HS.out.later hb_); clear hR_ hb_ hg_ hnew_ hC2) | ((with_reducible refine gate_builtin (b := .append) (xs := #[.tmp 45, .tmp 48]) rfl ?_); at_builtin; go_must (obtain ⟨ok_, q1, q2, q3⟩ := Sep.row (d := kR) (e := TR) (base := w3.heap.size) (v := u5) (xs := os) S2.out 0 rfl; (refine Kd.R_append_rows kR (Rr := kR.K w2) (w0 := w2) w3.heap.size rfl (.tmp 45) (.tmp 48) 43 TR (.agg #[.int .i32 0, .int .i32 0]) 8 rfl Tryd.underlying43 info46 rfl (by decide) (by decide) u5 os ([(⟨a, 1114111⟩ : SR)] : List SR) A2 ([(⟨a, 1114111⟩ : SR)] : List SR).length c2 ok_ (fun _ => False) rfl rfl q1 C2.out (fun x cs h => kR_KM x cs h) (fun _ h => h.elim) q2 (Below.refl _ _) S2.out.below.size HT.out ?_); intro v1 w1 hR_ hb_ hg_ hat_; have S3 := Aside0.mk (q3 v1 w1 _ hR_ hg_); clear hR_ hb_ hg_ hat_ q1 q2 q3)))
              go_ret
              obtain ⟨ok, h⟩ := Sep.one S3.out 0 _ rfl
              exact ⟨v1, rfl, by rw [HRG.out, HRC.out]; exact Kd.R_lower (Kd.R_mono h (fun _ _ => trivial)) H3B.out, H3.out.trans (S3.out.below.mono H3B.out)⟩
  · have hd : (c == 7) = false := beq_eq_false_iff_ne.2 hc
    have FL := Aside0.mk (ucd_listed.calls c (lst c) w (lst_any c))
    have hrg : rgs c = lst c := by unfold rgs; rw [if_neg hc]
    have HRG := Aside0.mk hrg
    clear hc hrg
    go_enter Tryd.func23, Tryd.ntmps23
    go_wp2_with (go_at_call 61; go_must (refine FL.out.mono ?_; rintro E w2 ⟨v, rfl, p0, p1⟩; have P0 := Aside0.mk p0; have P1 := Aside0.mk p1; clear p0 p1))
    go_ret
    exact ⟨_, rfl, by rw [HRG.out]; exact P0.out, P1.out⟩
end Go.Proofs.YthffpkdadffinaaDoor.Vk
namespace Go.Proofs.YthffpkdadffinaaDoor.X
set_option linter.unusedVariables false
set_option linter.unusedSimpArgs false
open Go.RowKit Go.Proofs.YthffpkdadffinaaDoorW.PrintWords
def ucd_Ranges.f (a0 : Int) : Option (List S46) := some (Vk0.rgs a0)
theorem ucd_Ranges.calls (a0 : Int) (r : List S46) (w : World) (h : ucd_Ranges.f a0 = some r) : Calls Tryd.prog 23 #[.int .i64 a0] w fun e w' => ∃ v0_ : Value, e = .returned v0_ ∧ Kd.R k46 46 w' w.heap.size (fun _ => True) v0_ r ∧ Below w.heap.size w w' := by
  have h2 := Vk.RangesP w a0
  rw [Option.some.inj h] at h2
  exact h2
end Go.Proofs.YthffpkdadffinaaDoor.X
namespace Go.Proofs.YthffpkdadffinaaDoor.Ev0
set_option linter.unusedVariables false
set_option linter.unusedSimpArgs false
open Go.RowKit Go.Proofs.YthffpkdadffinaaDoorW.PrintWords
theorem w64 {i : Nat} (h : i < 4611686018427387904) : wrap64 ((i : Int) + 1) = ((i + 1 : Nat) : Int) := by unfold wrap64; omega
theorem rd_nat {l : List Int} {i : Nat} (h : i < l.length) : rd l (i : Int) = l[i] := by simp [rd, List.getD_eq_getElem?_getD, List.getElem?_eq_getElem h]
theorem ev_range {α : Type} {F : Nat → Int → Option α} {n : Nat} {r : α} (hend : Ev (fun k => F k (n : Int)) r) (hstep : ∀ i : Nat, i < n → Ev (fun k => F k ((i + 1 : Nat) : Int)) r → Ev (fun k => F k (i : Int)) r) : ∀ i : Nat, i ≤ n → Ev (fun k => F k (i : Int)) r := by
  have key : ∀ d i : Nat, i + d = n → Ev (fun k => F k (i : Int)) r := by
    intro d
    induction d with
    | zero => intro i h; obtain rfl : i = n := by omega
              exact hend
    | succ d ih => intro i h; exact hstep i (by omega) (ih (i + 1) (by omega))
  intro i h
  exact key (n - i) i (by omega)
theorem ev_list {α : Type} {F : Nat → Int → Option α} {l : List Int} {r : α} (hend : Ev (fun k => F k (l.length : Int)) r) (hstep : ∀ (i : Nat) (x : Int), i < l.length → x ∈ l → rd l (i : Int) = x → Ev (fun k => F k ((i + 1 : Nat) : Int)) r → Ev (fun k => F k (i : Int)) r) : Ev (fun k => F k 0) r :=
  ev_range (n := l.length) hend (fun i hi h => hstep i l[i] hi (List.getElem_mem hi) (rd_nat hi) h) 0 (Nat.zero_le _)
end Go.Proofs.YthffpkdadffinaaDoor.Ev0
namespace Go.Proofs.YthffpkdadffinaaDoor.X
open Go.RowKit Go.Proofs.YthffpkdadffinaaDoorW.PrintWords Go.Proofs.YthffpkdadffinaaDoorW.PrintLast Go.Proofs.YthffpkdadffinaaDoorW.PrintMore
attribute [local go_sem] max2_int min2_int max_two min_two max_three min_three max_four min_four   
set_option linter.unusedVariables false
set_option linter.unusedSimpArgs false
mutual
def tremaref02_next.j0 : Nat → Int → Bool → Option (Int)
 | 0, _, _ => none
 | k + 1, x0, x22 => if x22 = true then (some (wrap32 (x0 + 1))) else (tremaref02_next.l0 k x0 (([1024, 1154, 1155, 1162, 1328, 1632, 1642, 4352, 4608, 7680, 8125, 8192, 8203, 8208, 8232, 8234, 8240, 8260, 8352, 8385, 8400, 8413, 8486, 8487, 8490, 8492, 8592, 8960, 12288, 12289, 12292, 12353, 12439, 12441, 12443, 12449, 12539, 19968, 40960, 44032, 55204, 65296, 65306, 65533, 65534, 128512, 128592, 1114112, 1114113] : List Int)) 0)
def tremaref02_next.l0 : Nat → Int → List Int → Int → Option (Int)
 | 0, _, _, _ => none
 | k + 1, x0, x3, x4 => if x4 < (x3.length : Int) then (if 0 ≤ x4 then (if (rd x3 x4) > x0 then (some (rd x3 x4)) else (tremaref02_next.l0 k x0 x3 (wrap64 (x4 + 1)))) else (none)) else (some (wrap32 (x0 + 1)))
end
def tremaref02_next.f (k : Nat) (a0 : Int) : Option (Int) := if a0 < 1024 then (tremaref02_next.j0 k a0 true) else (if a0 ≥ 8112 then (if a0 < 9216 then (tremaref02_next.j0 k a0 true) else (if a0 ≥ 12288 then (tremaref02_next.j0 k a0 (decide (a0 < 12544))) else (tremaref02_next.j0 k a0 false))) else (if a0 ≥ 12288 then (tremaref02_next.j0 k a0 (decide (a0 < 12544))) else (tremaref02_next.j0 k a0 false)))
theorem tremaref02_next.mono_l : ∀ k, (∀ y0 y1, LeO (tremaref02_next.j0 k y0 y1) (tremaref02_next.j0 (k + 1) y0 y1)) ∧ (∀ y0 y1 y2, LeO (tremaref02_next.l0 k y0 y1 y2) (tremaref02_next.l0 (k + 1) y0 y1 y2))
 | 0 => ⟨fun _ _ r h => by simp [tremaref02_next.j0] at h, fun _ _ _ r h => by simp [tremaref02_next.l0] at h⟩
 | k + 1 => by
  obtain ⟨ih0, ih1⟩ := tremaref02_next.mono_l k
  refine ⟨?_, ?_⟩
  ·intro y0 y1
   unfold tremaref02_next.j0
   repeat' first
   | (with_reducible exact ih0 _ _)
   | (with_reducible exact ih1 _ _ _)
   | (with_reducible exact LeO.refl _)
   | (with_reducible exact LeO.none _)
   | (with_reducible refine LeO.ite ?_ ?_)
   | (with_reducible refine LeO.bind ?_ (fun _ => ?_))
   | exact ih0 _ _
   | exact ih1 _ _ _
   | exact LeO.none _
   | refine LeO.ite ?_ ?_
   | refine LeO.bind ?_ (fun _ => ?_)
  ·intro y0 y1 y2
   unfold tremaref02_next.l0
   repeat' first
   | (with_reducible exact ih0 _ _)
   | (with_reducible exact ih1 _ _ _)
   | (with_reducible exact LeO.refl _)
   | (with_reducible exact LeO.none _)
   | (with_reducible refine LeO.ite ?_ ?_)
   | (with_reducible refine LeO.bind ?_ (fun _ => ?_))
   | exact ih0 _ _
   | exact ih1 _ _ _
   | exact LeO.none _
   | refine LeO.ite ?_ ?_
   | refine LeO.bind ?_ (fun _ => ?_)
theorem tremaref02_next.mono : ∀ a0 k, LeO (tremaref02_next.f k a0) (tremaref02_next.f (k + 1) a0) := by
 intro a0 k
 obtain ⟨ih0, ih1⟩ := tremaref02_next.mono_l k
 unfold tremaref02_next.f
 repeat' first
   | (with_reducible exact ih0 _ _)
   | (with_reducible exact ih1 _ _ _)
   | (with_reducible exact LeO.refl _)
   | (with_reducible exact LeO.none _)
   | (with_reducible refine LeO.ite ?_ ?_)
   | (with_reducible refine LeO.bind ?_ (fun _ => ?_))
   | exact ih0 _ _
   | exact ih1 _ _ _
   | exact LeO.none _
   | refine LeO.ite ?_ ?_
   | refine LeO.bind ?_ (fun _ => ?_)
set_option maxHeartbeats 8000000 in
set_option maxRecDepth 100000 in
theorem tremaref02_next.calls (k : Nat) (a0 : Int) (r : Int) (w : World) (h : tremaref02_next.f k a0 = some r) :
  Calls Tryd.prog 66 #[.int .i32 a0] w fun e w' => e = .returned (.int .i32 r) ∧ Below w.heap.size w w' := by
 have HB := Aside0.mk (Below.refl w.heap.size w)
 have H : (if a0 < 1024 then (tremaref02_next.j0 k a0 true) else (if a0 ≥ 8112 then (if a0 < 9216 then (tremaref02_next.j0 k a0 true) else (if a0 ≥ 12288 then (tremaref02_next.j0 k a0 (decide (a0 < 12544))) else (tremaref02_next.j0 k a0 false))) else (if a0 ≥ 12288 then (tremaref02_next.j0 k a0 (decide (a0 < 12544))) else (tremaref02_next.j0 k a0 false)))) = some r := h
 clear h
 have HC2 := Aside0.mk H
 clear H
 go_enter Tryd.func66, Tryd.ntmps66
 go_upto_region 1 with (fail)
 go_cut [22] (fun v22 wc => ∃ (kq : Nat) (x22_1 : Bool), v22 = .bool x22_1 ∧ Aside0 (tremaref02_next.j0 kq a0 x22_1 = some r) ∧ Aside0 (kq ≤ k) ∧ Aside0 (Below w.heap.size w wc))
 case first =>
  have H := HC2.out
  clear HC2
  by_cases c3 : a0 < 1024
  ·rw [if_pos c3] at H
   have c3b0 : decide (a0 < 1024) = true := decide_eq_true c3
   clear c3
   (first | rw [c3b0] | (simp only [i64_w, i32_w]; rw [c3b0]) | skip)
   have H' := Aside0.mk H
   clear H
   go_wp2
   go_meet
   case rel => exact ⟨_, (true), (by first | rfl | (simp; done) | (simp [*]; done)), H', ⟨by first | omega | exact Nat.le_refl _⟩, ⟨by repeat (first | (with_reducible first | exact HB.out | apply below_alloc | apply pw_below_drewN | apply below_drew1) | exact HB.out)⟩⟩
  ·rw [if_neg c3] at H
   have c3b0 : decide (a0 < 1024) = false := decide_eq_false c3
   clear c3
   (first | rw [c3b0] | (simp only [i64_w, i32_w]; rw [c3b0]) | skip)
   by_cases c4 : a0 ≥ 8112
   ·rw [if_pos c4] at H
    have c4b0 : decide (8112 ≤ a0) = true := decide_eq_true c4
    clear c4
    by_cases c5 : a0 < 9216
    ·rw [if_pos c5] at H
     have c5b0 : decide (a0 < 9216) = true := decide_eq_true c5
     clear c5
     have H' := Aside0.mk H
     clear H
     go_wp2
     go_meet
     case rel => exact ⟨_, (true), (by first | rfl | (simp; done) | (simp [*]; done)), H', ⟨by first | omega | exact Nat.le_refl _⟩, ⟨by repeat (first | (with_reducible first | exact HB.out | apply below_alloc | apply pw_below_drewN | apply below_drew1) | exact HB.out)⟩⟩
    ·rw [if_neg c5] at H
     have c5b0 : decide (a0 < 9216) = false := decide_eq_false c5
     clear c5
     by_cases c6 : a0 ≥ 12288
     ·rw [if_pos c6] at H
      have c6b0 : decide (12288 ≤ a0) = true := decide_eq_true c6
      clear c6
      have H' := Aside0.mk H
      clear H
      go_wp2
      go_meet
      case rel => exact ⟨_, (decide (a0 < 12544)), (by first | rfl | (simp; done) | (simp [*]; done)), H', ⟨by first | omega | exact Nat.le_refl _⟩, ⟨by repeat (first | (with_reducible first | exact HB.out | apply below_alloc | apply pw_below_drewN | apply below_drew1) | exact HB.out)⟩⟩
     ·rw [if_neg c6] at H
      have c6b0 : decide (12288 ≤ a0) = false := decide_eq_false c6
      clear c6
      have H' := Aside0.mk H
      clear H
      go_wp2
      go_meet
      case rel => exact ⟨_, (false), (by first | rfl | (simp; done) | (simp [*]; done)), H', ⟨by first | omega | exact Nat.le_refl _⟩, ⟨by repeat (first | (with_reducible first | exact HB.out | apply below_alloc | apply pw_below_drewN | apply below_drew1) | exact HB.out)⟩⟩
   ·rw [if_neg c4] at H
    have c4b0 : decide (8112 ≤ a0) = false := decide_eq_false c4
    clear c4
    by_cases c7 : a0 ≥ 12288
    ·rw [if_pos c7] at H
     have c7b0 : decide (12288 ≤ a0) = true := decide_eq_true c7
     clear c7
     have H' := Aside0.mk H
     clear H
     go_wp2
     go_meet
     case rel => exact ⟨_, (decide (a0 < 12544)), (by first | rfl | (simp; done) | (simp [*]; done)), H', ⟨by first | omega | exact Nat.le_refl _⟩, ⟨by repeat (first | (with_reducible first | exact HB.out | apply below_alloc | apply pw_below_drewN | apply below_drew1) | exact HB.out)⟩⟩
    ·rw [if_neg c7] at H
     have c7b0 : decide (12288 ≤ a0) = false := decide_eq_false c7
     clear c7
     have H' := Aside0.mk H
     clear H
     go_wp2
     go_meet
     case rel => exact ⟨_, (false), (by first | rfl | (simp; done) | (simp [*]; done)), H', ⟨by first | omega | exact Nat.le_refl _⟩, ⟨by repeat (first | (with_reducible first | exact HB.out | apply below_alloc | apply pw_below_drewN | apply below_drew1) | exact HB.out)⟩⟩
 case rest =>
  clear HC2
  try clear p2
  try clear c3
  try clear c3b0
  try clear c4
  try clear c4b0
  try clear c5
  try clear c5b0
  try clear c6
  try clear c6b0
  try clear c7
  try clear c7b0
  obtain ⟨kq, x22_1, rfl, HA, HJ1, HB⟩ := hcut
  cases kq with
  | zero => exact absurd HA.out (by simp [tremaref02_next.j0])
  | succ kj1 =>
   have H := HA.out
   clear HA
   simp only [tremaref02_next.j0] at H
   by_cases c8 : x22_1 = true
   ·subst c8
    have H1 : (some (wrap32 (a0 + 1))) = some r := by rw [if_pos rfl] at H; exact H
    clear H
    have H := H1
    clear H1
    obtain rfl := Option.some.inj H
    go_wp2
    go_ret
    exact ⟨by first | rfl | (simp [errW_none, errW_some] <;> rfl) | (simp [*, errW_none, errW_some] <;> rfl), by repeat (first | (with_reducible first | exact HB.out | apply below_alloc | apply pw_below_drewN | apply below_drew1) | exact HB.out)⟩
   ·replace c8 := Bool.eq_false_iff.mpr c8
    subst c8
    have H1 : (tremaref02_next.l0 kj1 a0 (([1024, 1154, 1155, 1162, 1328, 1632, 1642, 4352, 4608, 7680, 8125, 8192, 8203, 8208, 8232, 8234, 8240, 8260, 8352, 8385, 8400, 8413, 8486, 8487, 8490, 8492, 8592, 8960, 12288, 12289, 12292, 12353, 12439, 12441, 12443, 12449, 12539, 19968, 40960, 44032, 55204, 65296, 65306, 65533, 65534, 128512, 128592, 1114112, 1114113] : List Int)) 0) = some r := by rw [if_neg (show ¬ (false = true) by decide)] at H; exact H
    clear H
    have H := H1
    clear H1
    obtain ⟨y583, hy583⟩ : ∃ y_ : List Int, y_ = (([1024, 1154, 1155, 1162, 1328, 1632, 1642, 4352, 4608, 7680, 8125, 8192, 8203, 8208, 8232, 8234, 8240, 8260, 8352, 8385, 8400, 8413, 8486, 8487, 8490, 8492, 8592, 8960, 12288, 12289, 12292, 12353, 12439, 12441, 12443, 12449, 12539, 19968, 40960, 44032, 55204, 65296, 65306, 65533, 65534, 128512, 128592, 1114112, 1114113] : List Int)) := ⟨_, rfl⟩
    replace H : (tremaref02_next.l0 kj1 a0 y583 0) = some r := by first | (rw [hy583]; with_reducible exact H) | (have H2_ := (Option.bind_some _ _).symm.trans H; rw [hy583]; with_reducible exact H2_) | (have H2_ := (Option.bind_some _ _).symm.trans H; with_reducible exact H2_) | with_reducible exact H | (rw [hy583]; exact H) | exact H
    have Ny583 := Aside0.mk hy583
    clear hy583
    have H' := Aside0.mk H
    clear H
    go_wp2_with (first | ((with_reducible refine gate_dst (N := 25) rfl ?_); refine Kd.R_lit (Kd.int .i32) _ 21 ?hg (N := 25) ?hd (xs := ([1024, 1154, 1155, 1162, 1328, 1632, 1642, 4352, 4608, 7680, 8125, 8192, 8203, 8208, 8232, 8234, 8240, 8260, 8352, 8385, 8400, 8413, 8486, 8487, 8490, 8492, 8592, 8960, 12288, 12289, 12292, 12353, 12439, 12441, 12443, 12449, 12539, 19968, 40960, 44032, 55204, 65296, 65306, 65533, 65534, 128512, 128592, 1114112, 1114113] : List Int)) (inner := [.int .i32 1024, .int .i32 1154, .int .i32 1155, .int .i32 1162, .int .i32 1328, .int .i32 1632, .int .i32 1642, .int .i32 4352, .int .i32 4608, .int .i32 7680, .int .i32 8125, .int .i32 8192, .int .i32 8203, .int .i32 8208, .int .i32 8232, .int .i32 8234, .int .i32 8240, .int .i32 8260, .int .i32 8352, .int .i32 8385, .int .i32 8400, .int .i32 8413, .int .i32 8486, .int .i32 8487, .int .i32 8490, .int .i32 8492, .int .i32 8592, .int .i32 8960, .int .i32 12288, .int .i32 12289, .int .i32 12292, .int .i32 12353, .int .i32 12439, .int .i32 12441, .int .i32 12443, .int .i32 12449, .int .i32 12539, .int .i32 19968, .int .i32 40960, .int .i32 44032, .int .i32 55204, .int .i32 65296, .int .i32 65306, .int .i32 65533, .int .i32 65534, .int .i32 128512, .int .i32 128592, .int .i32 1114112, .int .i32 1114113]) (ok := fun _ => True) (okp := fun _ => True) ?hr ?hp (fun _ hk => hk) trivial (Below.refl _ _) (Nat.le_refl _) (by simp) ?_; (case hd => rfl); (case hg => rfl); (case hr => first | (go_simp; done) | (go_simp; rfl)); (case hp => exact (Reps.one (show Kd.M (Kd.int .i32) _ _ _ 1024 [.int .i32 1024] from rfl) (Reps.one (show Kd.M (Kd.int .i32) _ _ _ 1154 [.int .i32 1154] from rfl) (Reps.one (show Kd.M (Kd.int .i32) _ _ _ 1155 [.int .i32 1155] from rfl) (Reps.one (show Kd.M (Kd.int .i32) _ _ _ 1162 [.int .i32 1162] from rfl) (Reps.one (show Kd.M (Kd.int .i32) _ _ _ 1328 [.int .i32 1328] from rfl) (Reps.one (show Kd.M (Kd.int .i32) _ _ _ 1632 [.int .i32 1632] from rfl) (Reps.one (show Kd.M (Kd.int .i32) _ _ _ 1642 [.int .i32 1642] from rfl) (Reps.one (show Kd.M (Kd.int .i32) _ _ _ 4352 [.int .i32 4352] from rfl) (Reps.one (show Kd.M (Kd.int .i32) _ _ _ 4608 [.int .i32 4608] from rfl) (Reps.one (show Kd.M (Kd.int .i32) _ _ _ 7680 [.int .i32 7680] from rfl) (Reps.one (show Kd.M (Kd.int .i32) _ _ _ 8125 [.int .i32 8125] from rfl) (Reps.one (show Kd.M (Kd.int .i32) _ _ _ 8192 [.int .i32 8192] from rfl) (Reps.one (show Kd.M (Kd.int .i32) _ _ _ 8203 [.int .i32 8203] from rfl) (Reps.one (show Kd.M (Kd.int .i32) _ _ _ 8208 [.int .i32 8208] from rfl) (Reps.one (show Kd.M (Kd.int .i32) _ _ _ 8232 [.int .i32 8232] from rfl) (Reps.one (show Kd.M (Kd.int .i32) _ _ _ 8234 [.int .i32 8234] from rfl) (Reps.one (show Kd.M (Kd.int .i32) _ _ _ 8240 [.int .i32 8240] from rfl) (Reps.one (show Kd.M (Kd.int .i32) _ _ _ 8260 [.int .i32 8260] from rfl) (Reps.one (show Kd.M (Kd.int .i32) _ _ _ 8352 [.int .i32 8352] from rfl) (Reps.one (show Kd.M (Kd.int .i32) _ _ _ 8385 [.int .i32 8385] from rfl) (Reps.one (show Kd.M (Kd.int .i32) _ _ _ 8400 [.int .i32 8400] from rfl) (Reps.one (show Kd.M (Kd.int .i32) _ _ _ 8413 [.int .i32 8413] from rfl) (Reps.one (show Kd.M (Kd.int .i32) _ _ _ 8486 [.int .i32 8486] from rfl) (Reps.one (show Kd.M (Kd.int .i32) _ _ _ 8487 [.int .i32 8487] from rfl) (Reps.one (show Kd.M (Kd.int .i32) _ _ _ 8490 [.int .i32 8490] from rfl) (Reps.one (show Kd.M (Kd.int .i32) _ _ _ 8492 [.int .i32 8492] from rfl) (Reps.one (show Kd.M (Kd.int .i32) _ _ _ 8592 [.int .i32 8592] from rfl) (Reps.one (show Kd.M (Kd.int .i32) _ _ _ 8960 [.int .i32 8960] from rfl) (Reps.one (show Kd.M (Kd.int .i32) _ _ _ 12288 [.int .i32 12288] from rfl) (Reps.one (show Kd.M (Kd.int .i32) _ _ _ 12289 [.int .i32 12289] from rfl) (Reps.one (show Kd.M (Kd.int .i32) _ _ _ 12292 [.int .i32 12292] from rfl) (Reps.one (show Kd.M (Kd.int .i32) _ _ _ 12353 [.int .i32 12353] from rfl) (Reps.one (show Kd.M (Kd.int .i32) _ _ _ 12439 [.int .i32 12439] from rfl) (Reps.one (show Kd.M (Kd.int .i32) _ _ _ 12441 [.int .i32 12441] from rfl) (Reps.one (show Kd.M (Kd.int .i32) _ _ _ 12443 [.int .i32 12443] from rfl) (Reps.one (show Kd.M (Kd.int .i32) _ _ _ 12449 [.int .i32 12449] from rfl) (Reps.one (show Kd.M (Kd.int .i32) _ _ _ 12539 [.int .i32 12539] from rfl) (Reps.one (show Kd.M (Kd.int .i32) _ _ _ 19968 [.int .i32 19968] from rfl) (Reps.one (show Kd.M (Kd.int .i32) _ _ _ 40960 [.int .i32 40960] from rfl) (Reps.one (show Kd.M (Kd.int .i32) _ _ _ 44032 [.int .i32 44032] from rfl) (Reps.one (show Kd.M (Kd.int .i32) _ _ _ 55204 [.int .i32 55204] from rfl) (Reps.one (show Kd.M (Kd.int .i32) _ _ _ 65296 [.int .i32 65296] from rfl) (Reps.one (show Kd.M (Kd.int .i32) _ _ _ 65306 [.int .i32 65306] from rfl) (Reps.one (show Kd.M (Kd.int .i32) _ _ _ 65533 [.int .i32 65533] from rfl) (Reps.one (show Kd.M (Kd.int .i32) _ _ _ 65534 [.int .i32 65534] from rfl) (Reps.one (show Kd.M (Kd.int .i32) _ _ _ 128512 [.int .i32 128512] from rfl) (Reps.one (show Kd.M (Kd.int .i32) _ _ _ 128592 [.int .i32 128592] from rfl) (Reps.one (show Kd.M (Kd.int .i32) _ _ _ 1114112 [.int .i32 1114112] from rfl) (Reps.one (show Kd.M (Kd.int .i32) _ _ _ 1114113 [.int .i32 1114113] from rfl) (Reps.none _ _))))))))))))))))))))))))))))))))))))))))))))))))))); intro v584 w9 ho10 hb hg_ hnew_; clear hg_ hnew_; (first | rw [← Ny583.out] at ho10 | (simp only [Int.reduceToNat] at ho10; rw [← Ny583.out] at ho10)); have n0_ := Aside0.mk (Kd.R_lower ho10 (below_size (by repeat (first | (with_reducible first | exact HB.out | apply below_alloc | apply pw_below_drewN | apply below_drew1) | exact HB.out)))); have n1_ := Aside0.mk (below_step (by repeat (first | (with_reducible first | exact HB.out | apply below_alloc | apply pw_below_drewN | apply below_drew1) | exact HB.out)) hb); clear HB; have HO585 := n0_; have HB := n1_; clear n0_ n1_; clear hb ho10))
    go_loopg [4] kj1 (fun kq v4 w' => ∃ (x4_2 : Int), v4 = .int .i64 x4_2 ∧ Aside0 (tremaref02_next.l0 kq a0 y583 x4_2 = some r) ∧ Aside0 (kq ≤ kj1) ∧ Aside0 (Kd.R (Kd.int .i32) 21 w' w.heap.size (fun _ => True) v584 y583) ∧ Aside0 (Below w.heap.size w w'))
    case atStart => exact ⟨(0), (by first | rfl | (simp; done) | (simp [*]; done)), H', ⟨Nat.le_refl _⟩, ⟨by (with_reducible repeat (first | apply Kd.R_alloc | apply Kd.R_drewN | apply Kd.R_drew)); exact HO585.out⟩, ⟨by repeat (first | (with_reducible first | exact HB.out | apply below_alloc | apply pw_below_drewN | apply below_drew1) | exact HB.out)⟩⟩
    case round =>
     clear H'
     try clear p2
     try clear c3
     try clear c3b0
     try clear p3
     try clear c4
     try clear c4b0
     try clear c5
     try clear c5b0
     try clear c6
     try clear c6b0
     try clear c7
     try clear c7b0
     try clear c8
     try clear p2
     obtain ⟨x4_2, rfl, HA, HK2, HO_3, HB⟩ := hrel
     cases gk with
     | zero => exact absurd HA.out (by simp [tremaref02_next.l0])
     | succ k2 =>
      have H := HA.out
      clear HA
      simp only [tremaref02_next.l0] at H
      by_cases c11 : x4_2 < (y583.length : Int)
      ·rw [if_pos c11] at H
       have c11b0 : decide (x4_2 < (y583.length : Int)) = true := decide_eq_true c11
       clear c11
       by_cases c12 : 0 ≤ x4_2
       ·rw [if_pos c12] at H
        have c12b0 : decide (0 ≤ x4_2) = true := decide_eq_true c12
        clear c12
        by_cases c13 : (rd y583 x4_2) > a0
        ·rw [if_pos c13] at H
         have c13b0 : decide (a0 < (rd y583 x4_2)) = true := decide_eq_true c13
         clear c13
         obtain rfl := Option.some.inj H
         obtain ⟨Ao14, co14, eo14⟩ := Kd.R_slice HO_3.out
         subst eo14
         have p586 : 0 ≤ (x4_2 : Int) := of_decide_eq_true (by first | (with_reducible assumption) | assumption)
         have q586 : x4_2 < (y583.length : Int) := of_decide_eq_true (by first | (with_reducible assumption) | assumption)
         obtain ⟨ad586, e586, hx586_0⟩ := Kd.at_int (Kd.R_reads' HO_3.out).2.2 x4_2 p586 q586
         cases e586
         replace p586 := eq_true p586
         replace q586 := eq_true q586
         have p587 : 0 ≤ (x4_2 : Int) := of_decide_eq_true (by first | (with_reducible assumption) | assumption)
         have q587 : x4_2 < (y583.length : Int) := of_decide_eq_true (by first | (with_reducible assumption) | assumption)
         obtain ⟨ad587, e587, hx587_0⟩ := Kd.at_int (Kd.R_reads' HO_3.out).2.2 x4_2 p587 q587
         obtain rfl : ad586 = ad587 := (by injection e587)
         replace p587 := eq_true p587
         replace q587 := eq_true q587
         go_wp2
         go_ret
         exact ⟨by first | rfl | (simp [errW_none, errW_some] <;> rfl) | (simp [*, errW_none, errW_some] <;> rfl), by repeat (first | (with_reducible first | exact HB.out | apply below_alloc | apply pw_below_drewN | apply below_drew1) | exact HB.out)⟩
        ·rw [if_neg c13] at H
         have c13b0 : decide (a0 < (rd y583 x4_2)) = false := decide_eq_false c13
         clear c13
         have H' := Aside0.mk H
         clear H
         obtain ⟨Ao15, co15, eo15⟩ := Kd.R_slice HO_3.out
         subst eo15
         have p586 : 0 ≤ (x4_2 : Int) := of_decide_eq_true (by first | (with_reducible assumption) | assumption)
         have q586 : x4_2 < (y583.length : Int) := of_decide_eq_true (by first | (with_reducible assumption) | assumption)
         obtain ⟨ad586, e586, hx586_0⟩ := Kd.at_int (Kd.R_reads' HO_3.out).2.2 x4_2 p586 q586
         cases e586
         replace p586 := eq_true p586
         replace q586 := eq_true q586
         go_wp2
         go_roundg k2
         case measure => have := HJ1.out; have := HK2.out; omega
         case rel => exact ⟨(wrap64 (x4_2 + 1)), (by first | rfl | (simp; done) | (simp [*]; done)), H', ⟨by have := HJ1.out; have := HK2.out; omega⟩, ⟨by (with_reducible repeat (first | apply Kd.R_alloc | apply Kd.R_drewN | apply Kd.R_drew)); exact HO_3.out⟩, ⟨by repeat (first | (with_reducible first | exact HB.out | apply below_alloc | apply pw_below_drewN | apply below_drew1) | exact HB.out)⟩⟩
       ·rw [if_neg c12] at H
        exact absurd H (by simp)
      ·rw [if_neg c11] at H
       have c11b0 : decide (x4_2 < (y583.length : Int)) = false := decide_eq_false c11
       clear c11
       obtain rfl := Option.some.inj H
       obtain ⟨Ao16, co16, eo16⟩ := Kd.R_slice HO_3.out
       subst eo16
       go_wp2
       go_ret
       exact ⟨by first | rfl | (simp [errW_none, errW_some] <;> rfl) | (simp [*, errW_none, errW_some] <;> rfl), by repeat (first | (with_reducible first | exact HB.out | apply below_alloc | apply pw_below_drewN | apply below_drew1) | exact HB.out)⟩
end Go.Proofs.YthffpkdadffinaaDoor.X
namespace Go.Proofs.YthffpkdadffinaaDoor.X
open Go.RowKit Go.Proofs.YthffpkdadffinaaDoorW.PrintWords Go.Proofs.YthffpkdadffinaaDoorW.PrintLast Go.Proofs.YthffpkdadffinaaDoorW.PrintMore
attribute [local go_sem] max2_int min2_int max_two min_two max_three min_three max_four min_four   
set_option linter.unusedVariables false
set_option linter.unusedSimpArgs false
def tremaref02_in.f (a0 : Int) (a1 : Int) (a2 : Int) : Option (Bool) := if a1 ≤ a0 then (some (decide (a0 ≤ a2))) else (some false)
set_option maxHeartbeats 8000000 in
set_option maxRecDepth 100000 in
theorem tremaref02_in.calls (a0 : Int) (a1 : Int) (a2 : Int) (r : Bool) (w : World) (h : tremaref02_in.f a0 a1 a2 = some r) :
  Calls Tryd.prog 88 #[.int .i32 a0, .int .i32 a1, .int .i32 a2] w fun e w' => e = .returned (.bool r) ∧ Drawn0 w w' := by
 have H : (if a1 ≤ a0 then (some (decide (a0 ≤ a2))) else (some false)) = some r := h
 clear h
 by_cases c4 : a1 ≤ a0
 ·rw [if_pos c4] at H
  have c4b0 : decide (a1 ≤ a0) = true := decide_eq_true c4
  clear c4
  obtain rfl := Option.some.inj H
  go_enter Tryd.func88, Tryd.ntmps88
  go_wp2
  go_ret
  exact ⟨by first | rfl | (simp; done) | (simp [*]; done), by repeat (first | exact Drawn0.refl _ | apply Drawn0.step)⟩
 ·rw [if_neg c4] at H
  have c4b0 : decide (a1 ≤ a0) = false := decide_eq_false c4
  clear c4
  obtain rfl := Option.some.inj H
  go_enter Tryd.func88, Tryd.ntmps88
  go_wp2
  go_ret
  exact ⟨by first | rfl | (simp; done) | (simp [*]; done), by repeat (first | exact Drawn0.refl _ | apply Drawn0.step)⟩
end Go.Proofs.YthffpkdadffinaaDoor.X
namespace Go.Proofs.YthffpkdadffinaaDoor.Vin
set_option linter.unusedVariables false
set_option linter.unusedSimpArgs false
open Go.RowKit Go.Proofs.YthffpkdadffinaaDoorW.PrintWords Go.Proofs.YthffpkdadffinaaDoor.Hp Go.Proofs.YthffpkdadffinaaDoor.X
def inB (r lo hi : Int) : Bool := decide (lo ≤ r) && decide (r ≤ hi)
theorem in_some (r lo hi : Int) : tremaref02_in.f r lo hi = some (inB r lo hi) := by
  unfold tremaref02_in.f inB
  by_cases h : lo ≤ r
  · rw [if_pos h, decide_eq_true h]; simp
  · rw [if_neg h, decide_eq_false h]; rfl
theorem InQ {w w0 : World} (r lo hi : Int) (h : Drawn0 w w0) : Calls Tryd.prog 88 #[.int .i32 r, .int .i32 lo, .int .i32 hi] w0 fun e w' => e = .returned (.bool (inB r lo hi)) ∧ Drawn0 w w' :=
  (tremaref02_in.calls r lo hi _ w0 (in_some r lo hi)).mono fun _ _ ⟨h1, h2⟩ => ⟨h1, by obtain ⟨n, rfl⟩ := h2.out; exact h.step n⟩
def anyIn (r : Int) : List (Int × Int) → Bool
  | [] => false
  | p :: t => inB r p.1 p.2 || anyIn r t
def refG (r d : Int) : List (List (Int × Int) × Int) → Int
  | [] => d
  | q :: t => if anyIn r q.1 = true then q.2 else refG r d t
def AlikeB (B : List Int) (r x : Int) : Prop := ∀ b ∈ B, (b ≤ r ↔ b ≤ x)
theorem inB_of {r x lo hi : Int} (h1 : lo ≤ r ↔ lo ≤ x) (h2 : hi + 1 ≤ r ↔ hi + 1 ≤ x) : inB r lo hi = inB x lo hi := by
  unfold inB
  congr 1
  · rw [decide_eq_decide]; omega
  · rw [decide_eq_decide]; omega
theorem anyIn_of {B : List Int} {r x : Int} (h : AlikeB B r x) : ∀ l : List (Int × Int), (∀ p ∈ l, p.1 ∈ B ∧ p.2 + 1 ∈ B) → anyIn r l = anyIn x l
  | [], _ => rfl
  | p :: t, hl => by
    have h1 := hl p (List.mem_cons_self ..)
    rw [anyIn, anyIn, inB_of (h _ h1.1) (h _ h1.2), anyIn_of h t fun q hq => hl q (List.mem_cons_of_mem _ hq)]
theorem refG_of {B : List Int} {r x : Int} (h : AlikeB B r x) (d : Int) : ∀ t : List (List (Int × Int) × Int), (∀ q ∈ t, ∀ p ∈ q.1, p.1 ∈ B ∧ p.2 + 1 ∈ B) → refG r d t = refG x d t
  | [], _ => rfl
  | q :: t, hl => by rw [refG, refG, anyIn_of h q.1 (hl q (List.mem_cons_self ..)), refG_of h d t fun q hq => hl q (List.mem_cons_of_mem _ hq)]
theorem rep0 (m r : Int) : ∀ B : List Int, (∀ b ∈ B, m < b) → ∃ x, x ∈ m :: B ∧ (∀ b ∈ B, (b ≤ r ↔ b ≤ x)) ∧ (x = m ∨ x ≤ r)
  | [], _ => ⟨m, List.mem_cons_self .., by simp, .inl rfl⟩
  | b :: B, h => by
    obtain ⟨x, h1, h2, h3⟩ := rep0 m r B (fun c hc => h c (List.mem_cons_of_mem _ hc))
    have hb := h b (List.mem_cons_self ..)
    by_cases c1 : b ≤ r
    · by_cases c2 : x < b
      · refine ⟨b, by simp, fun c hc => ?_, .inr c1⟩
        rcases List.mem_cons.1 hc with rfl | hc
        · exact ⟨fun _ => Int.le_refl _, fun _ => c1⟩
        · have := h2 c hc
          omega
      · refine ⟨x, ?_, fun c hc => ?_, h3⟩
        · rcases List.mem_cons.1 h1 with rfl | h1 <;> simp [*]
        · rcases List.mem_cons.1 hc with rfl | hc
          · omega
          · exact h2 c hc
    · refine ⟨x, ?_, fun c hc => ?_, h3⟩
      · rcases List.mem_cons.1 h1 with rfl | h1 <;> simp [*]
      · rcases List.mem_cons.1 hc with rfl | hc
        · omega
        · exact h2 c hc
theorem rep (B : List Int) (r : Int) (h : ∀ b ∈ B, -1 < b) : ∃ x, x ∈ -1 :: B ∧ AlikeB B r x := by
  obtain ⟨x, h1, h2, -⟩ := rep0 (-1) r B h
  exact ⟨x, h1, h2⟩
end Go.Proofs.YthffpkdadffinaaDoor.Vin
namespace Go.Proofs.YthffpkdadffinaaDoor.Vcc
set_option linter.unusedVariables false
set_option linter.unusedSimpArgs false
open Go.RowKit Go.Proofs.YthffpkdadffinaaDoorW.PrintWords Go.Proofs.YthffpkdadffinaaDoor.Hp Go.Proofs.YthffpkdadffinaaDoor.X Go.Proofs.YthffpkdadffinaaDoor.Vin
def g0 : List (Int × Int) := [(32, 32), (160, 160), (8192, 8202), (8232, 8233), (12288, 12288)]
def g1 : List (Int × Int) := [(48, 57), (178, 179), (185, 185), (188, 190), (1632, 1641), (65296, 65305)]
def g2 : List (Int × Int) := [(768, 879), (1155, 1161), (8400, 8412), (12441, 12442)]
def g3 : List (Int × Int) := [(33, 35), (37, 42), (44, 47), (58, 59), (63, 64), (91, 93), (95, 95), (123, 123), (125, 125), (161, 161), (167, 167), (171, 171), (182, 183), (187, 187), (191, 191), (903, 903), (8208, 8231), (8240, 8259), (12289, 12291)]
def g4 : List (Int × Int) := [(36, 36), (43, 43), (60, 62), (94, 94), (96, 96), (124, 124), (126, 126), (162, 166), (168, 169), (172, 172), (174, 177), (180, 180), (184, 184), (215, 215), (247, 247), (8352, 8384), (8592, 8959), (65533, 65533), (128512, 128591)]
def g5 : List (Int × Int) := [(65, 90), (97, 122), (170, 170), (181, 181), (186, 186), (192, 214), (216, 246), (248, 687), (902, 902), (904, 1023), (1024, 1153), (1162, 1327), (4352, 4607), (7680, 8124), (8486, 8486), (8490, 8491), (12353, 12438), (12449, 12538), (19968, 40959), (44032, 55203)]
def refT : List (List (Int × Int) × Int) := [(g0, 6), (g1, 3), (g2, 2), (g3, 4), (g4, 5), (g5, 1)]
def refC (r : Int) : Int := refG r 7 refT
set_option maxRecDepth 100000 in
set_option maxHeartbeats 16000000 in
theorem refC_walk (w : World) (r : Int) : Calls Tryd.prog 65 #[.int .i32 r] w fun e w' => e = .returned (.int .i64 (refC r)) ∧ Drawn0 w w' := by
  have HB := Aside0.mk (Drawn0.refl w)
  go_enter Tryd.func65, Tryd.ntmps65
  go_upto_if 3 with (go_at_call 88; go_must (refine (InQ r _ _ HB.out).mono ?_; clear HB; rintro E w1 ⟨rfl, p1⟩; have HB := Aside0.mk p1; clear p1))
  go_cut [3] (fun vq wq => vq = .bool (anyIn r g0) ∧ Aside0 (Drawn0 w wq))
  case first =>
    as_aux_lemma =>
     go_wp2_with (go_at_call 88; go_must (refine (InQ r _ _ HB.out).mono ?_; clear HB; rintro E w1 ⟨rfl, p1⟩; have HB := Aside0.mk p1; clear p1))
     all_goals (go_meet; case rel => exact ⟨by simp [anyIn, g0, *], HB⟩)
  case rest =>
    as_aux_lemma =>
     obtain ⟨rfl, HB⟩ := hcut
     cases c0 : anyIn r g0 with
     | true =>
       have HV := Aside0.mk (show refC r = 6 by simp only [refC, refT, refG, c0, Bool.false_eq_true, if_false, if_true])
       go_wp2
       go_ret
       exact ⟨by rw [HV.out]; rfl, HB.out⟩
     | false =>
       go_upto_if 16 with (go_at_call 88; go_must (refine (InQ r _ _ HB.out).mono ?_; clear HB; rintro E w1 ⟨rfl, p1⟩; have HB := Aside0.mk p1; clear p1))
       go_cut [16] (fun vq wq => vq = .bool (anyIn r g1) ∧ Aside0 (Drawn0 w wq))
       case first =>
         as_aux_lemma =>
          go_wp2_with (go_at_call 88; go_must (refine (InQ r _ _ HB.out).mono ?_; clear HB; rintro E w1 ⟨rfl, p1⟩; have HB := Aside0.mk p1; clear p1))
          all_goals (go_meet; case rel => exact ⟨by simp [anyIn, g1, *], HB⟩)
       case rest =>
         as_aux_lemma =>
          obtain ⟨rfl, HB⟩ := hcut
          cases c1 : anyIn r g1 with
          | true =>
            have HV := Aside0.mk (show refC r = 3 by simp only [refC, refT, refG, c0, c1, Bool.false_eq_true, if_false, if_true])
            go_wp2
            go_ret
            exact ⟨by rw [HV.out]; rfl, HB.out⟩
          | false =>
            go_upto_if 31 with (go_at_call 88; go_must (refine (InQ r _ _ HB.out).mono ?_; clear HB; rintro E w1 ⟨rfl, p1⟩; have HB := Aside0.mk p1; clear p1))
            go_cut [31] (fun vq wq => vq = .bool (anyIn r g2) ∧ Aside0 (Drawn0 w wq))
            case first =>
              as_aux_lemma =>
               go_wp2_with (go_at_call 88; go_must (refine (InQ r _ _ HB.out).mono ?_; clear HB; rintro E w1 ⟨rfl, p1⟩; have HB := Aside0.mk p1; clear p1))
               all_goals (go_meet; case rel => exact ⟨by simp [anyIn, g2, *], HB⟩)
            case rest =>
              as_aux_lemma =>
               obtain ⟨rfl, HB⟩ := hcut
               cases c2 : anyIn r g2 with
               | true =>
                 have HV := Aside0.mk (show refC r = 2 by simp only [refC, refT, refG, c0, c1, c2, Bool.false_eq_true, if_false, if_true])
                 go_wp2
                 go_ret
                 exact ⟨by rw [HV.out]; rfl, HB.out⟩
               | false =>
                 go_upto_if 40 with (go_at_call 88; go_must (refine (InQ r _ _ HB.out).mono ?_; clear HB; rintro E w1 ⟨rfl, p1⟩; have HB := Aside0.mk p1; clear p1))
                 go_cut [40] (fun vq wq => vq = .bool (anyIn r g3) ∧ Aside0 (Drawn0 w wq))
                 case first =>
                   as_aux_lemma =>
                    go_wp2_with (go_at_call 88; go_must (refine (InQ r _ _ HB.out).mono ?_; clear HB; rintro E w1 ⟨rfl, p1⟩; have HB := Aside0.mk p1; clear p1))
                    all_goals (go_meet; case rel => exact ⟨by simp [anyIn, g3, *], HB⟩)
                 case rest =>
                   as_aux_lemma =>
                    obtain ⟨rfl, HB⟩ := hcut
                    cases c3 : anyIn r g3 with
                    | true =>
                      have HV := Aside0.mk (show refC r = 4 by simp only [refC, refT, refG, c0, c1, c2, c3, Bool.false_eq_true, if_false, if_true])
                      go_wp2
                      go_ret
                      exact ⟨by rw [HV.out]; rfl, HB.out⟩
                    | false =>
                      go_upto_if 87 with (go_at_call 88; go_must (refine (InQ r _ _ HB.out).mono ?_; clear HB; rintro E w1 ⟨rfl, p1⟩; have HB := Aside0.mk p1; clear p1))
                      go_cut [87] (fun vq wq => vq = .bool (anyIn r g4) ∧ Aside0 (Drawn0 w wq))
                      case first =>
                        as_aux_lemma =>
                         go_wp2_with (go_at_call 88; go_must (refine (InQ r _ _ HB.out).mono ?_; clear HB; rintro E w1 ⟨rfl, p1⟩; have HB := Aside0.mk p1; clear p1))
                         all_goals (go_meet; case rel => exact ⟨by simp [anyIn, g4, *], HB⟩)
                      case rest =>
                        as_aux_lemma =>
                         obtain ⟨rfl, HB⟩ := hcut
                         cases c4 : anyIn r g4 with
                         | true =>
                           have HV := Aside0.mk (show refC r = 5 by simp only [refC, refT, refG, c0, c1, c2, c3, c4, Bool.false_eq_true, if_false, if_true])
                           go_wp2
                           go_ret
                           exact ⟨by rw [HV.out]; rfl, HB.out⟩
                         | false =>
                           go_upto_if 134 with (go_at_call 88; go_must (refine (InQ r _ _ HB.out).mono ?_; clear HB; rintro E w1 ⟨rfl, p1⟩; have HB := Aside0.mk p1; clear p1))
                           go_cut [134] (fun vq wq => vq = .bool (anyIn r g5) ∧ Aside0 (Drawn0 w wq))
                           case first =>
                             as_aux_lemma =>
                              go_wp2_with (go_at_call 88; go_must (refine (InQ r _ _ HB.out).mono ?_; clear HB; rintro E w1 ⟨rfl, p1⟩; have HB := Aside0.mk p1; clear p1))
                              all_goals (go_meet; case rel => exact ⟨by simp [anyIn, g5, *], HB⟩)
                           case rest =>
                             as_aux_lemma =>
                              obtain ⟨rfl, HB⟩ := hcut
                              cases c5 : anyIn r g5 with
                              | true =>
                                have HV := Aside0.mk (show refC r = 1 by simp only [refC, refT, refG, c0, c1, c2, c3, c4, c5, Bool.false_eq_true, if_false, if_true])
                                go_wp2
                                go_ret
                                exact ⟨by rw [HV.out]; rfl, HB.out⟩
                              | false =>
                                have HV := Aside0.mk (show refC r = 7 by simp only [refC, refT, refG, c0, c1, c2, c3, c4, c5, Bool.false_eq_true, if_false])
                                go_wp2
                                go_ret
                                exact ⟨by rw [HV.out]; rfl, HB.out⟩
end Go.Proofs.YthffpkdadffinaaDoor.Vcc
namespace Go.Proofs.YthffpkdadffinaaDoor.Vcy
set_option linter.unusedVariables false
set_option linter.unusedSimpArgs false
open Go.RowKit Go.Proofs.YthffpkdadffinaaDoorW.PrintWords Go.Proofs.YthffpkdadffinaaDoor.Vb Go.Proofs.YthffpkdadffinaaDoor.Vin Go.Proofs.YthffpkdadffinaaDoor.Vcc
def catB : List Int := refT.flatMap fun q => q.1.flatMap fun p => [p.1, p.2 + 1]
theorem lst_in : ∀ k ∈ [(1 : Int), 2, 3, 4, 5, 6], ∀ p ∈ lst k, p.f0 ∈ catB ∧ p.f1 + 1 ∈ catB := by decide +kernel
theorem any_of {r x : Int} (hx : AlikeB catB r x) (k : Int) (hk : k ∈ [(1 : Int), 2, 3, 4, 5, 6]) : (lst k).any (inR r) = (lst k).any (inR x) := by
  have h := lst_in k hk
  revert h
  induction lst k with
  | nil => intro _; rfl
  | cons p t ih =>
    intro h
    have h1 := h p (List.mem_cons_self ..)
    have a1 := hx _ h1.1
    have a2 := hx _ h1.2
    rw [List.any_cons, List.any_cons, ih (fun q hq => h q (List.mem_cons_of_mem _ hq))]
    congr 1
    unfold inR
    congr 1
    · rw [decide_eq_decide]; omega
    · rw [decide_eq_decide]; omega
theorem cat_of {r x : Int} (hx : AlikeB catB r x) : cat r = cat x := by
  unfold cat
  simp only [catF]
  rw [any_of hx ((1 : Nat) : Int) (by decide), any_of hx ((1 + 1 : Nat) : Int) (by decide), any_of hx ((1 + 1 + 1 : Nat) : Int) (by decide), any_of hx ((1 + 1 + 1 + 1 : Nat) : Int) (by decide), any_of hx ((1 + 1 + 1 + 1 + 1 : Nat) : Int) (by decide), any_of hx ((1 + 1 + 1 + 1 + 1 + 1 : Nat) : Int) (by decide)]
theorem cat_at : ∀ x ∈ -1 :: catB, refC x = cat x := by decide +kernel
theorem refC_cat (r : Int) : refC r = cat r := by
  obtain ⟨x, hx1, hx⟩ := rep catB r (by decide +kernel)
  rw [cat_of hx, ← cat_at x hx1]
  exact refG_of hx _ refT (by decide +kernel)
end Go.Proofs.YthffpkdadffinaaDoor.Vcy
namespace Go.Proofs.YthffpkdadffinaaDoor.X
set_option linter.unusedVariables false
set_option linter.unusedSimpArgs false
open Go.RowKit Go.Proofs.YthffpkdadffinaaDoorW.PrintWords
def tremaref02_Category.f (_ : Nat) (a0 : Int) : Option Int := some (Vb.cat a0)
theorem tremaref02_Category.mono : ∀ a0 k, LeO (tremaref02_Category.f k a0) (tremaref02_Category.f (k + 1) a0) := fun _ _ _ h => h
theorem tremaref02_Category.calls (k : Nat) (a0 : Int) (r : Int) (w : World) (h : tremaref02_Category.f k a0 = some r) : Calls Tryd.prog 65 #[.int .i32 a0] w fun e w' => e = .returned (.int .i64 r) ∧ Drawn0 w w' := by
  have h2 := Vcc.refC_walk w a0
  rw [Vcy.refC_cat, Option.some.inj h] at h2
  exact h2
end Go.Proofs.YthffpkdadffinaaDoor.X
