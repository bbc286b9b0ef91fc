-- the texts that this claim needs, out of this session's and its print's (wip/shrink.py)
import Derived.Test.YtfnchdlgkkdegaaBunLaw0T
import Derived.Test.YtfnchdlgkkdegaaPAllx11T
set_option linter.unusedVariables false
set_option linter.unusedSimpArgs false
namespace Go.Proofs.Ytfnchdlgkkdegaa.PAll
open Go.RowKit Go.Proofs.YtfnchdlgkkdegaaW.PrintWords Go.Proofs.YtfnchdlgkkdegaaW.PrintLast Go.Proofs.YtfnchdlgkkdegaaW.PrintMore
attribute [local go_sem] Oper.semAt_some
theorem cwakes_eq {k : Nat} (hk : 100 ≤ k) : w4_wakes.f k = some true :=
  at_rounds w4_wakes.mono hk (show w4_wakes.f 100 = some true by kernel_rfl)
theorem refword_calls (x : S35) (h : insOk x.f0 x.f1 x.f2 x.f3 x.f4 x.f5 = true) (w : World) : Calls Try.prog 10 #[.agg (insC x).toArray] w fun e w' => e = .returned (.int .u32 (wordX x)) ∧ Below w.heap.size w w' :=
  r3_Word.calls 20 x.f0 x.f1 x.f2 x.f3 x.f4 x.f5 _ w (refword_eq (Nat.le_refl _) _ _ _ _ _ _ (okI_op h).1 (okI_op h).2)
theorem isBun_ins (b : S52) (h : isBun b 4 = true) (k : Nat) (hk : k < 4) : insOk (get52 b k).f0 (get52 b k).f1 (get52 b k).f2 (get52 b k).f3 (get52 b k).f4 (get52 b k).f5 = true := by
 have h2 := isBun_at b 4 h k hk
 unfold okB at h2
 rw [Bool.and_eq_true] at h2
 exact h2.1
theorem load_rowslot {w : World} {ad : Addr} {n : Nat} {xs : List S52} (h : Kd.C k52 w (some ad) n xs) (i : Nat) (hi : i < n) (k : Nat) (hk : k < 4) : (Instr.loadAt 35 (.pointer (some ((ad.add (i * 24)).add (k * 6))))).run Try.prog w = .ok (.agg (insC (get52 (J52 xs i) k)).toArray) w := by
 obtain ⟨ad', c, e, hcl, hK, hc⟩ := Kd.C_get h z52 (i : Int) (Int.natCast_nonneg _) (by omega)
 obtain rfl := Option.some.inj e
 rw [Int.toNat_natCast, show k52.sz = 24 from rfl] at hc
 have hb : xs.getD (i : Int).toNat z52 = J52 xs i := rfl
 rw [hb] at hK
 obtain rfl := k52_open hK
 generalize J52 xs i = b at hc
 have hcell : ∀ j v, (insC (get52 b k))[j]? = some v → w.cell? (((ad.add (i * 24)).add (k * 6)).add j) = some v := by
  intro j v hv
  rw [add_add, add_add]
  have hj : j < 6 := (List.getElem?_eq_some_iff.1 hv).1
  have h2 := hc (k * 6 + j) v
  apply h2
  have : k = 0 ∨ k = 1 ∨ k = 2 ∨ k = 3 := by omega
  have hjj : j = 0 ∨ j = 1 ∨ j = 2 ∨ j = 3 ∨ j = 4 ∨ j = 5 := by omega
  rcases this with rfl | rfl | rfl | rfl <;> rcases hjj with rfl | rfl | rfl | rfl | rfl | rfl <;> exact hv
 have hl := run_loadCells_list (P := Try.prog) w ((ad.add (i * 24)).add (k * 6)) (insC (get52 b k)) hcell
 obtain ⟨i0, hi0, hz⟩ := Option.map_eq_some_iff.1 info35
 simp only [Prod.mk.injEq] at hz
 have hl2 : (loadCells ((ad.add (i * 24)).add (k * 6)) 6).run Try.prog w = .ok (insC (get52 b k)).toArray w := hl
 clear hl hc hcell hK
 generalize insC (get52 b k) = X at hl2 ⊢
 simp [Instr.loadAt, Instr.sureAddr, loadVar, isAgg, sizeOf, typeInfo, run_underlying Try.underlying35, hi0, hz.2.1, hl2, Result.andThen]
def bun7.T22 : Bool × List (List Nat × List Nat) := (true, [([], []), ([], []), ([], []), ([], []), ([3], [3]), ([4], [4]), ([], []), ([], []), ([6, 7], [6, 7]), ([8], [8]), ([0, 1, 0, 1, 3, 4, 5, 9], [0, 1]), ([10, 5, 0, 1, 3, 4, 5, 9], [5, 10]), ([2, 0, 1, 2, 3, 4, 5, 6, 7, 8, 9, 10, 11], [2]), ([12, 9, 11, 0, 1, 2, 3, 4, 5, 6, 7, 8, 9, 10, 11], [9, 12])])
def bun7.B22 : List Nat := [0, 0, 0, 0, 8, 24, 0, 0, 192, 448, 1019, 2043, 4095, 8191]
theorem bun7.tab22 : rtab .any (opsOf Try.f7 22) = bun7.T22 := by kernel_rfl
theorem bun7.bits22 : waitsOk bun7.T22.2 bun7.B22 = true := by kernel_rfl
def bun7.T24 : Bool × List (List Nat × List Nat) := (true, [([], []), ([], []), ([], []), ([], []), ([2, 3], [2, 3]), ([4], [4]), ([], []), ([6], [6]), ([7], [7]), ([5, 8], [5, 8]), ([0, 1, 0, 1, 2, 3, 4, 5, 6, 7, 8, 9], [0, 1]), ([10, 9, 0, 1, 2, 3, 4, 5, 6, 7, 8, 9], [9, 10])])
def bun7.B24 : List Nat := [0, 0, 0, 0, 12, 28, 0, 64, 192, 508, 1023, 2047]
theorem bun7.tab24 : rtab .any (opsOf Try.f7 24) = bun7.T24 := by kernel_rfl
theorem bun7.bits24 : waitsOk bun7.T24.2 bun7.B24 = true := by kernel_rfl
set_option maxRecDepth 100000 in
set_option maxHeartbeats 32000000 in
theorem bundles_calls (A0_0 : Option Addr) (n0 c0_0 : Nat) (A0_1 : Option Addr) (n1 c0_1 : Nat) (A0_2 : Option Addr) (n2 c0_2 : Nat) (A0_3 : Option Addr) (n3 c0_3 : Nat) (A0_4 : Option Addr) (c0_4 : Nat) (lB : List S52) (w : World) (hr : Kd.C k52 w A0_4 lB.length lB) :
    Calls Try.prog 7 #[.agg #[.slice A0_0 n0 c0_0, .slice A0_1 n1 c0_1, .slice A0_2 n2 c0_2, .slice A0_3 n3 c0_3, .slice A0_4 lB.length c0_4]] w fun e w' => e = .returned (.bool true) ∧ Below w.heap.size w w' := by
 have hu32 := Try.underlying32
 have hu35 := Try.underlying35
 have hu52 := Try.underlying52
 have HR := As_.mk hr
 have HWK := As_.mk (fun W => w4_wakes.calls 100 true W (cwakes_eq (Nat.le_refl _)))
 clear hr
 go_enter Try.func7, Try.ntmps7
 go_wp2_with (first | ((with_reducible refine gate_dst (N := 1) rfl ?_); refine box_event ?hg (N := 1) ?hd (cs := #[.slice A0_0 n0 c0_0, .slice A0_1 n1 c0_1, .slice A0_2 n2 c0_2, .slice A0_3 n3 c0_3, .slice A0_4 lB.length c0_4]) (t := 32) ?hr ?_; (case hd => rfl); (case hg => rfl); (case hr => first | (go_simp; done) | (go_simp; rfl)); intro g1 hg w2 hbox hb; have HB := As_.mk hb; have BK := As_.mk hbox; clear hb hbox hg))
 go_loopw [3] (fun i wr => ∃ j : Nat, j ≤ 20 ∧ i = .int .i64 j ∧ As_ (wr.heap[g1]? = some (.cells #[.slice A0_0 n0 c0_0, .slice A0_1 n1 c0_1, .slice A0_2 n2 c0_2, .slice A0_3 n3 c0_3, .slice A0_4 lB.length c0_4] 32 (0, 0))) ∧ As_ (Below w.heap.size w wr)) (fun i _ => 20 - (intOf i).toNat)
 case atStart => exact ⟨0, by omega, rfl, ⟨BK.out⟩, ⟨HB.out⟩⟩
 case round =>
  clear BK HB
  obtain ⟨j, hj, rfl, BK, HB⟩ := hrel
  have x0 : wr.cell? ⟨g1, 4, none⟩ = some (.slice A0_4 lB.length c0_4) := (bC_ BK.out 4).trans rfl
  have p1 : ((0 : Int) ≤ (j : Int)) = True := eq_true (Int.natCast_nonneg _)
  by_cases hlt : j < lB.length
  ·have q1 : ((j : Int) < (lB.length : Int)) = True := eq_true (by omega)
   have q2 : (j < lB.length) = True := eq_true hlt
   by_cases h20 : j < 20
   ·have q3 : ((j : Int) < 20) = True := eq_true (by omega)
    have q4 : (j < 20) = True := eq_true h20
    rename World => wo
    have HLT := As_.mk hlt
    have H20 := As_.mk h20
    have hw2 : wrap64 ((j : Int) + 1) = ((j + 1 : Nat) : Int) := by unfold wrap64; omega
    obtain ⟨ad4, _, e4, _⟩ := Kd.C_get HR.out z52 (j : Int) (Int.natCast_nonneg _) (by omega)
    subst e4
    have HC := As_.mk (fun W (hW : Below wo.heap.size wo W) => Kd.C_below HR.out (HB.out.trans (hW.mono HB.out.size)))
    have HL := As_.mk (fun W (hW : Below wo.heap.size wo W) => load_row52 (HC.out W hW) j HLT.out)
    clear hlt h20 hj
    generalize hx : J52 lB j = b at HL
    have HX := As_.mk hx
    clear hx
    go_upto_if 46 with (first | ((with_reducible refine gate_dst (N := 37) rfl ?_); refine val_event (N := 37) (w1 := wo) (v := .agg (bunC b).toArray) ?hg ?hd ?hr ?_; (case hd => rfl); (case hg => rfl); (case hr => exact exec_load rfl rfl (HL.out _ (Below.refl _ _)))) | (go_at_call 23; refine (words_calls b _).mono ?_; rintro e w3 ⟨v4_, rfl, ho, hb⟩; obtain ⟨Al, cl, hvl⟩ := row_head ho; subst hvl; have HO4 := As_.mk ho; have HB3 := As_.mk hb; have y3 : w3.cell? ⟨g1, 4, none⟩ = some (.slice (some ad4) lB.length c0_4) := (bC_ (kB_ BK.out hb) 4).trans rfl; clear ho hb) | ((with_reducible refine gate_dst (N := 45) rfl ?_); refine val_event (N := 45) (w1 := w3) (v := .agg (bunC b).toArray) ?hg ?hd ?hr ?_; (case hd => rfl); (case hg => rfl); (case hr => exact exec_load rfl rfl (HL.out _ HB3.out))) | (go_at_call 24; refine (refbun_calls b false _).mono ?_; rintro e w4 ⟨rfl, hb⟩; have HB4 := As_.mk (HB3.out.trans (hb.mono HB3.out.size)); have HO44 := As_.mk (Kd.R_below HO4.out hb); have y4 : w4.cell? ⟨g1, 4, none⟩ = some (.slice (some ad4) lB.length c0_4) := (bC_ (kB_ BK.out HB4.out) 4).trans rfl; clear hb))
    go_cut [6, 7] (fun v6 v7 wc => v6 = .int .i64 (wdE b) ∧ As_ (Kd.R (Kd.int .u32) 33 wc wo.heap.size (fun _ => True) v7 (wdL b)) ∧ As_ (Below w4.heap.size w4 wc))
    case first =>
     try clear_value *
     as_aux_lemma =>
      cases hi : isBun b 4 with
      | false =>
       rw [show refB b false = false from by unfold refB; rw [hi]; rfl]
       have HII := As_.mk hi
       clear hi
       go_wp2
       go_meet
       case rel => exact ⟨by unfold wdE; rw [HII.out]; rfl, ⟨by unfold wdL; rw [HII.out, if_neg (by simp)]; exact Kd.R_nil _ _ _ _ _⟩, ⟨Below.refl _ _⟩⟩
      | true =>
       rw [show refB b false = true from by unfold refB; rw [hi]; rfl]
       have HII := As_.mk hi
       clear hi
       cases hbb : bareB b 4 with
       | false =>
        have hrb2 : refB b true = false := by unfold refB; rw [HII.out, hbb]; rfl
        have HBB := As_.mk hbb
        have HRB := As_.mk (fun W => refbun_calls b true W)
        rw [hrb2] at HRB
        clear hbb hrb2
        go_wp2_with (first | ((with_reducible refine gate_dst (N := 51) rfl ?_); refine val_event (N := 51) (w1 := w4) (v := .agg (bunC b).toArray) ?hg ?hd ?hr ?_; (case hd => rfl); (case hg => rfl); (case hr => exact exec_load rfl rfl (HL.out _ HB4.out))) | (go_at_call 24; refine (HRB.out _).mono ?_; rintro e w5 ⟨rfl, hb⟩; have HB5 := As_.mk hb; clear hb))
        go_meet
        case rel => exact ⟨by unfold wdE; rw [HII.out, HBB.out]; rfl, ⟨by unfold wdL; rw [HII.out, HBB.out, if_neg (by simp)]; exact Kd.R_nil _ _ _ _ _⟩, ⟨HB5.out⟩⟩
       | true =>
        have hrb2 : refB b true = true := by unfold refB; rw [HII.out, hbb]; rfl
        have HBB := As_.mk hbb
        have HRB := As_.mk (fun W => refbun_calls b true W)
        rw [hrb2] at HRB
        clear hbb hrb2
        go_wp2_with (first | ((with_reducible refine gate_dst (N := 51) rfl ?_); refine val_event (N := 51) (w1 := w4) (v := .agg (bunC b).toArray) ?hg ?hd ?hr ?_; (case hd => rfl); (case hg => rfl); (case hr => exact exec_load rfl rfl (HL.out _ HB4.out))) | (go_at_call 24; refine (HRB.out _).mono ?_; rintro e w5 ⟨rfl, hb⟩; have HB5 := As_.mk hb; clear hb))
        go_loopw [7, 8] (fun v7 v8 wr => ∃ k : Nat, k ≤ 4 ∧ v8 = .int .i64 k ∧ As_ (Kd.R (Kd.int .u32) 33 wr w5.heap.size (fun _ => True) v7 (wl b k)) ∧ As_ (Below w5.heap.size w5 wr)) (fun _ v8 _ => 4 - (intOf v8).toNat)
        case atStart => exact ⟨0, by omega, rfl, ⟨Kd.R_nil _ _ _ _ _⟩, ⟨Below.refl _ _⟩⟩
        case round =>
         obtain ⟨k, hk, rfl, HO7, HB7⟩ := hrel
         by_cases hk4 : k < 4
         ·have p5 : ((0 : Int) ≤ (k : Int)) = True := eq_true (Int.natCast_nonneg _)
          have q5 : ((k : Int) < 4) = True := eq_true (by omega)
          have q6 : (k < 4) = True := eq_true hk4
          have HK4 := As_.mk hk4
          have hw3 : wrap64 ((k : Int) + 1) = ((k + 1 : Nat) : Int) := by unfold wrap64; omega
          have HBw := As_.mk ((HB4.out.trans (HB5.out.mono HB4.out.size)).trans (HB7.out.mono (HB4.out.trans (HB5.out.mono HB4.out.size)).size))
          have y7 : wr.cell? ⟨g1, 4, none⟩ = some (.slice (some ad4) lB.length c0_4) := (bC_ (kB_ BK.out HBw.out) 4).trans rfl
          have hls := load_rowslot (HC.out _ HBw.out) j HLT.out k hk4
          rw [HX.out] at hls
          have HLS := As_.mk hls
          have HP := As_.mk (fun W => refword_calls (get52 b k) (isBun_ins b HII.out k hk4) W)
          clear hls hk4 hk
          go_wp2_with (first | ((with_reducible refine gate_dst (N := 64) rfl ?_); refine val_event (N := 64) (w1 := wr) (v := .agg (insC (get52 b k)).toArray) ?hg ?hd ?hr ?_; (case hd => rfl); (case hg => rfl); (case hr => exact exec_load rfl rfl HLS.out)) | (go_at_call 10; refine (HP.out _).mono ?_; rintro e w6 ⟨rfl, hb⟩; have HO6 := As_.mk (Kd.R_below HO7.out hb); have HB6 := As_.mk (HB7.out.trans (hb.mono HB7.out.size)); clear hb) | ((with_reducible refine gate_builtin (b := .append) (xs := #[.tmp 57, .tmp 66]) rfl ?_); at_builtin; refine Kd.R_append (Kd.int .u32) (w0 := w5) w5.heap.size rfl (.tmp 57) (.tmp 66) 26 33 (.int .u32 0) 4 rfl Try.underlying26 info33 rfl (by decide) (by omega) u7 (wl b k) (wordX (get52 b k)) [.int .u32 (wordX (get52 b k))] (fun _ => True) (fun _ => False) rfl rfl ?aP (fun _ hk => hk.elim) ?aF ?aO ?aB ?aS ?aL ?_; (case aP => exact rfl); (case aB => exact HB6.out); (case aF => exact (fun _ _ => trivial)); (case aO => exact HO6.out); (case aS => exact bY_ HB6.out); (case aL => rw [wl_len]; have := HK4.out; omega); intro v8_ w8 ho hb hg hat; have HO8 := As_.mk ho; have HB8 := As_.mk hb; clear ho hb hg hat))
          refine ⟨⟨k + 1, by have := HK4.out; omega, by congr 1, ⟨by rw [wl]; exact HO8.out⟩, ⟨HB8.out⟩⟩, ?_⟩
          rw [hw3]
          show 4 - (((k + 1 : Nat) : Int)).toNat < 4 - ((k : Nat) : Int).toNat
          rw [Int.toNat_natCast, Int.toNat_natCast]
          have := HK4.out
          omega
         obtain rfl : k = 4 := by omega
         have q5 : (((4 : Nat) : Int) < 4) = False := eq_false (by omega)
         clear hk4 hk
         go_wp2
         go_meet
         case rel => exact ⟨by unfold wdE; rw [HII.out, HBB.out]; rfl, ⟨by unfold wdL; rw [if_pos ⟨HII.out, HBB.out⟩]; exact Kd.R_lower HO7.out (Nat.le_trans HB4.out.size HB5.out.size)⟩, ⟨HB5.out.trans (HB7.out.mono HB5.out.size)⟩⟩
    case rest =>
     obtain ⟨rfl, HO7, HBw⟩ := hcut
     have HBc := As_.mk (HB4.out.trans (HBw.out.mono HB4.out.size))
     have HO4 := As_.mk (Kd.R_below HO44.out HBw.out)
     clear HO44 HBw HB4
     obtain ⟨A7, c7, e7⟩ := row_head HO7.out
     subst e7
     obtain ⟨hLL, hLU⟩ := wdL_ok b
     generalize wdL b = L at HO4 HO7 hLL hLU ⊢
     generalize wdE b = er
     have HLL := As_.mk hLL
     have HLU := As_.mk hLU
     have HEQ := As_.mk (eqw_eq L (by omega))
     have HCP := As_.mk (cpw_eq L (by omega))
     obtain ⟨rW, hrW⟩ := wds_eq L (by omega)
     have HRW := As_.mk hrW
     clear hLL hLU hrW
     go_wp2_with (first | (go_at_call 11; refine (w4_num.calls er er _ rfl).mono ?_; rintro e w' ⟨rfl, ⟨nd, rfl⟩⟩; have HB5 := As_.mk (bN_ HBc.out nd); have HO45 := As_.mk (Kd.R_drewN HO4.out nd); have HO75 := As_.mk (Kd.R_drewN HO7.out nd); generalize World.drewN wc nd = w5 at HB5 HO45 HO75 ⊢) | (go_at_call 25; refine (r0_EqWords.calls 200 Al cl L A7 c7 L true _ (Kd.R_reads' HO45.out).2.2 (Kd.R_reads' HO45.out).2.1 (Kd.R_reads' HO75.out).2.2 (Kd.R_reads' HO75.out).2.1 HEQ.out).mono ?_; rintro e w' ⟨rfl, ⟨nd, rfl⟩⟩; have HB6 := As_.mk (bN_ HB5.out nd); have HO46 := As_.mk (Kd.R_drewN HO45.out nd); have HO76 := As_.mk (Kd.R_drewN HO75.out nd); generalize World.drewN w5 nd = w6 at HB6 HO46 HO76 ⊢) | (go_at_call 26; refine (r0_CopyWords.calls 200 A7 c7 L L _ (Kd.R_reads' HO76.out).2.2 (Kd.R_reads' HO76.out).2.1 HCP.out).mono ?_; rintro e w7 ⟨v80, rfl, ho, hb⟩; have HO80 := As_.mk ho; have HB7 := As_.mk hb; clear ho hb) | ((with_reducible refine gate_builtin (b := .append) (xs := #[.tmp 80, .tmp 81]) rfl ?_); at_builtin; refine Kd.R_append (Kd.int .u32) (w0 := w6) w6.heap.size rfl (.tmp 80) (.tmp 81) 26 33 (.int .u32 0) 4 rfl Try.underlying26 info33 rfl (by decide) (by omega) v80 L 0 [.int .u32 0] (fun _ => True) (fun _ => False) rfl rfl ?aP (fun _ hk => hk.elim) ?aF ?aO ?aB ?aS ?aL ?_; (case aP => exact rfl); (case aB => exact HB7.out); (case aF => exact (fun _ _ => trivial)); (case aO => exact HO80.out); (case aS => exact bY_ HB7.out); (case aL => have := HLL.out; omega); intro v82 w8 ho hb hg hat; obtain ⟨A82, c82, hv82⟩ := row_head ho; subst hv82; have HO82 := As_.mk (Kd.R_lower ho (HB6.out.size)); have HO48 := As_.mk (Kd.R_below HO46.out hb); have HO78 := As_.mk (Kd.R_below HO76.out hb); have HB8 := As_.mk (HB6.out.trans (hb.mono HB6.out.size)); clear ho hb hg hat) | ((with_reducible refine gate_dst (N := 83) rfl ?_); refine Kd.R_lit kS (w0 := wo) wo.heap.size 26 ?hg (N := 83) ?hd (xs := [((⟨A7, L.length, c7⟩, L) : SL × List Int), ((⟨A82, (L ++ [(0 : Int)]).length, c82⟩, L ++ [(0 : Int)]) : SL × List Int), zS]) (inner := [encS ((⟨A7, L.length, c7⟩, L) : SL × List Int), encS ((⟨A82, (L ++ [(0 : Int)]).length, c82⟩, L ++ [(0 : Int)]) : SL × List Int), encS zS]) (ok := fun _ => True) (okp := fun _ => True) ?hr ?hp (fun _ hk => hk) trivial HB8.out (bY_ HB8.out) (by simp) ?_; (case hd => rfl); (case hg => rfl); (case hr => first | (go_simp; done) | (go_simp; rfl)); (case hp => exact (Reps.one (show Kd.M kS _ _ _ ((⟨A7, L.length, c7⟩, L) : SL × List Int) [encS ((⟨A7, L.length, c7⟩, L) : SL × List Int)] from rfl) (Reps.one (show Kd.M kS _ _ _ ((⟨A82, (L ++ [(0 : Int)]).length, c82⟩, L ++ [(0 : Int)]) : SL × List Int) [encS ((⟨A82, (L ++ [(0 : Int)]).length, c82⟩, L ++ [(0 : Int)]) : SL × List Int)] from rfl) (Reps.one (show Kd.M kS _ _ _ zS [encS zS] from rfl) (Reps.none _ _))))); intro v9_ w9 ho hb hg hnew; have HO9 := As_.mk ho; have hb8 := grown_none hg; have HO49 := As_.mk (Kd.R_below HO48.out hb8); have HO79 := As_.mk (Kd.R_below HO78.out hb8); have HRS : As_ (Rows w9 wo.heap.size [((⟨A7, L.length, c7⟩, L) : SL × List Int), ((⟨A82, (L ++ [(0 : Int)]).length, c82⟩, L ++ [(0 : Int)]) : SL × List Int), zS]) := ⟨rows_cons (Kd.R_below HO78.out hb8) HLU.out (by have := HLL.out; omega) (rows_cons (Kd.R_below HO82.out hb8) (allU_snoc HLU.out) (by have := HLL.out; simp; omega) (rows_z (rows_nil _ _)))⟩; have HB9 := As_.mk hb; clear ho hb hg hnew hb8))
     clear HO4 HO7 HO45 HO75 HO46 HO76 HO80 HB7 HO82 HO48 HO78 HB8 HB5 HB6 HBc HEQ
     go_loopw [9, 10] (fun v9 v10 wr => ∃ (k : Nat) (ps : List (SL × List Int)), k ≤ L.length ∧ ps.length = 3 + 3 * k ∧ v10 = .int .i64 k ∧ As_ (kS.R 26 wr wo.heap.size (fun _ => True) v9 ps) ∧ As_ (Rows wr wo.heap.size ps) ∧ As_ (Kd.R (Kd.int .u32) 33 wr wo.heap.size (fun _ => True) (.slice A7 L.length c7) L) ∧ As_ (Kd.R (Kd.int .u32) 33 wr wo.heap.size (fun _ => True) (.slice Al L.length cl) L) ∧ As_ (Below wo.heap.size wo wr)) (fun _ v10 _ => L.length - (intOf v10).toNat)
     case atStart => exact ⟨0, _, Nat.zero_le _, rfl, rfl, ⟨HO9.out⟩, ⟨HRS.out⟩, ⟨HO79.out⟩, ⟨HO49.out⟩, ⟨HB9.out⟩⟩
     case round =>
      clear HO9 HRS HO79 HO49 HB9
      obtain ⟨k, ps, hk, hps, rfl, HO9, HRS, HO7, HO4, HB9⟩ := hrel
      by_cases hkl : k < L.length
      ·have p5 : ((0 : Int) ≤ (k : Int)) = True := eq_true (Int.natCast_nonneg _)
       have q5 : ((k : Int) < (L.length : Int)) = True := eq_true (by omega)
       have q6 : (k < L.length) = True := eq_true hkl
       have q7 : ((0 : Int) < (L.length : Int)) = True := eq_true (by omega)
       have q8 : (0 < L.length) = True := eq_true (by omega)
       have HKL := As_.mk hkl
       have HPS := As_.mk hps
       have hw3 : wrap64 ((k : Int) + 1) = ((k + 1 : Nat) : Int) := by have := HLL.out; unfold wrap64; omega
       have h9 := HO9.out
       obtain ⟨A9, c9, e9⟩ := Kd.R_slice h9
       subst e9
       clear hkl hk hps h9
       have HBr := As_.mk (Below.refl wr.heap.size wr)
       go_wp2_with (first | (go_at_call 26; refine (r0_CopyWords.calls 200 A7 c7 L L _ (Kd.R_reads' (Kd.R_below HO7.out HBr.out)).2.2 (Kd.R_reads' HO7.out).2.1 HCP.out).mono ?_; rintro e w10 ⟨v11_, rfl, ho, hb⟩; obtain ⟨g11, c11, hv_, hg_⟩ := own_shape ho (by have := HKL.out; omega); subst hv_; have HO11 := As_.mk ho; have G11 := As_.mk (Nat.le_trans HBr.out.size hg_); have GB11 := As_.mk hg_; have HBB11 := As_.mk hb; have HB10 := As_.mk (HBr.out.trans (hb.mono HBr.out.size)); clear ho hb hg_))
       have HOd := As_.mk (Kd.R_drew HO11.out)
       have HBd := As_.mk (b1_ HB10.out)
       have hz0 := Kd.R_celln (0 : Int) HOd.out ((0 : Nat) : Int) (by omega) (by have := HKL.out; omega)
       have hzk := Kd.R_celln (0 : Int) HOd.out (k : Int) (by omega) (by have := HKL.out; omega)
       rw [Int.toNat_natCast] at hz0 hzk
       have hu0 : UW (rdOf (0 : Int) L ((0 : Nat) : Int)) := rd_uw HLU.out 0 (by have := HKL.out; omega)
       have huk : UW (rdOf (0 : Int) L (k : Int)) := rd_uw HLU.out k HKL.out
       generalize rdOf (0 : Int) L ((0 : Nat) : Int) = a0 at hz0 hu0
       generalize rdOf (0 : Int) L (k : Int) = ak at hzk huk
       have HU0 := As_.mk hu0
       have HUK := As_.mk huk
       have HZ0 := As_.mk hz0
       have HZK := As_.mk hzk
       clear hu0 huk hz0 hzk HO11 HB10
       refine start_ (n := 14) (S := fun w' => w'.cell? ⟨g11, 0, none⟩ = some (.int .u32 a0) ∧ w'.cell? ⟨g11, k, none⟩ = some (.int .u32 ak)) (ds := [11, 13]) (bm 14 0) (by kernel_rfl) rfl (by kernel_rfl) ⟨HZ0.out.1, HZK.out.1⟩ (fun hHeld => ?_); refine with_tabW bun7.tab22 bun7.bits22 (fun HT_ HW_ => ?_)
       generalize w10.drew = w11 at HOd HBd HZ0 HZK hHeld ⊢
       refine seq_ (k := 3) [(0, some 92, false), (1, some 93, false), (2, some 94, false), (3, some 95, false), (4, some 96, false), (6, some 98, false), (7, some 99, false), (8, some 100, false), (5, some 97, true), (9, some 101, true), (10, some 102, false)] (bm 14 2047) rfl (seq_of HT_.out HW_.out (by kernel_rfl)) (fun _ _ _ _ _ h => h) hHeld ?_
       iterate 8 (refine SeqOn.pure (v := ?_) (a' := ?_) rfl rfl (Or.inl ⟨by kernel_rfl, ?_⟩) ?_ ?_; rotate_left 2; (focus (intro w'; go_simp; with_reducible rfl)); (focus (first | (simp only [Act.put, List.setIfInBounds_toArray, List.set_cons_zero, List.set_cons_succ, i64_w, i32_w]; rfl) | rfl)))
       (refine SeqOn.take (v := ?_) (a' := ?_) rfl rfl (Or.inl ⟨by kernel_rfl, ?_⟩) ?_ ?_; rotate_left 2; (focus (rintro w' ⟨s0, s1⟩; go_simp; with_reducible rfl)); (focus (first | (simp only [Act.put, List.setIfInBounds_toArray, List.set_cons_zero, List.set_cons_succ, i64_w, i32_w]; rfl) | rfl)))
       (refine SeqOn.take (v := ?_) (a' := ?_) rfl rfl (Or.inl ⟨by kernel_rfl, ?_⟩) ?_ ?_; rotate_left 2; (focus (rintro w' ⟨s0, s1⟩; go_simp; with_reducible rfl)); (focus (first | (simp only [Act.put, List.setIfInBounds_toArray, List.set_cons_zero, List.set_cons_succ, i64_w, i32_w]; rfl) | rfl)))
       (refine SeqOn.pure (v := ?_) (a' := ?_) rfl rfl (Or.inl ⟨by kernel_rfl, ?_⟩) ?_ ?_; rotate_left 2; (focus (intro w'; go_simp; with_reducible rfl)); (focus (first | (simp only [Act.put, List.setIfInBounds_toArray, List.set_cons_zero, List.set_cons_succ, i64_w, i32_w]; rfl) | rfl)))
       refine SeqOn.nil ?_
       clear hHeld
       have hp1 := Kd.R_putg HOd.out (k : Int) a0
       rw [Int.toNat_natCast] at hp1
       have HP1 := As_.mk hp1.1
       have HG1 := As_.mk hp1.2
       obtain ⟨hc1, hf1⟩ := HZK.out
       clear hp1
       refine last_ (i := 11) (N := none) (bm 14 4095) rfl rfl (one_of HT_.out (by kernel_rfl)) (by decide) (fun K hK => ?_)
       refine skip_ (w1 := w11.setCell ⟨g11, k, none⟩ (.int .u32 a0)) (by rfl) rfl (by first | (go_simp; done) | (go_simp; rfl)) ?_
       refine hK.out _ _ ?_
       clear hK K hc1 hf1
       have hp2 := Kd.R_putg HP1.out ((0 : Nat) : Int) ak
       have hz2 := Kd.R_celln (0 : Int) HP1.out ((0 : Nat) : Int) (by omega) (by have := HKL.out; omega)
       rw [Int.toNat_natCast] at hp2 hz2
       have HB1 := As_.mk (pw_below_grown HBd.out (some g11) HBd.out.size HG1.out (fun k_ e_ => by injection e_ with e_; subst e_; exact G11.out))
       clear HG1 HBd HOd HZ0 HZK
       generalize w11.setCell ⟨g11, k, none⟩ (.int .u32 a0) = w12 at HP1 hp2 hz2 HB1 ⊢
       have HP2 := As_.mk hp2.1
       have HB2 := As_.mk (pw_below_grown HB1.out (some g11) HB1.out.size hp2.2 (fun k_ e_ => by injection e_ with e_; subst e_; exact G11.out))
       obtain ⟨hc1, hf1⟩ := hz2
       clear hp2
       refine pure_ (i := 12) (N := some 103) (v := ?_) (a' := ?_) (bm 14 8191) rfl rfl (any_of HT_.out (by kernel_rfl)) (fun _ _ _ h => h) (Or.inl ⟨by rfl, ?_⟩) ?_ ?_
       rotate_left
       ·intro w'
        go_simp
        with_reducible rfl
       rotate_left
       ·simp only [Act.put, List.setIfInBounds_toArray, List.set_cons_zero, List.set_cons_succ, i64_w, i32_w]
        rfl
       refine last_ (i := 13) (N := none) (bm 14 16383) rfl rfl (one_of HT_.out (by kernel_rfl)) (by decide) (fun K hK => ?_)
       refine skip_ (w1 := w12.setCell ⟨g11, 0, none⟩ (.int .u32 ak)) (by rfl) rfl (by first | (go_simp; done) | (go_simp; rfl)) ?_
       refine hK.out _ _ ?_
       clear hK K hc1 hf1 HP1 HB1
       generalize w12.setCell ⟨g11, 0, none⟩ (.int .u32 ak) = w13 at HP2 HB2 ⊢
       refine done_ (done_of HT_.out (by kernel_rfl)) ?_
       clear HT_ HW_
       have HUY := As_.mk (allU_set (allU_set HLU.out k HU0.out) 0 HUK.out)
       have hly : ((L.set k a0).set 0 ak).length = L.length := by simp
       have HLY := As_.mk hly
       clear hly HU0 HUK
       generalize (L.set k a0).set 0 ak = yy at HP2 HUY HLY
       go_wp2_with (first | (go_at_call 26; refine (r0_CopyWords.calls 200 A7 c7 L L _ (Kd.R_reads' (Kd.R_below HO7.out HB2.out)).2.2 (Kd.R_reads' HO7.out).2.1 HCP.out).mono ?_; rintro e w14 ⟨v12_, rfl, ho, hb⟩; obtain ⟨g12, c12, hv_, hg_⟩ := own_shape ho (by have := HKL.out; omega); subst hv_; have HO12 := As_.mk ho; have G12 := As_.mk (Nat.le_trans HB2.out.size hg_); have GB12 := As_.mk hg_; have HBB12 := As_.mk hb; have HB14 := As_.mk (HB2.out.trans (hb.mono HB2.out.size)); clear ho hb hg_))
       have HOd := As_.mk (Kd.R_drew HO12.out)
       have HBd := As_.mk (b1_ HB14.out)
       have HBy := As_.mk (b1_ HBB12.out)
       obtain ⟨mm, hmm⟩ : ∃ m : Nat, m = j % 32 := ⟨_, rfl⟩
       have hrem : ((j : Int).tmod 32) = (mm : Int) := by rw [hmm, Int.tmod_eq_emod_of_nonneg (Int.natCast_nonneg _)]; omega
       have HZZ := As_.mk (wrap_uw (2 ^ min mm 32))
       clear hmm
       have hzk := Kd.R_celln (0 : Int) HOd.out (k : Int) (by omega) (by have := HKL.out; omega)
       rw [Int.toNat_natCast] at hzk
       have huk : UW (rdOf (0 : Int) L (k : Int)) := rd_uw HLU.out k HKL.out
       generalize rdOf (0 : Int) L (k : Int) = ak at hzk huk
       have HUK := As_.mk huk
       have HZK := As_.mk hzk
       clear huk hzk HO12 HB14 HBB12
       refine start_ (n := 12) (S := fun w' => w'.cell? ⟨g12, k, none⟩ = some (.int .u32 ak)) (ds := [11]) (bm 12 0) (by kernel_rfl) rfl (by kernel_rfl) HZK.out.1 (fun hHeld => ?_); refine with_tabW bun7.tab24 bun7.bits24 (fun HT_ HW_ => ?_)
       generalize w14.drew = w15 at HOd HBd HBy HZK hHeld ⊢
       refine seq_ (k := 1) [(0, some 106, false), (1, some 107, false), (2, some 108, false), (3, some 109, false), (4, some 110, false), (6, some 112, false), (7, some 113, false), (8, some 114, false), (5, some 111, true), (9, some 115, false), (10, some 116, false)] (bm 12 2047) rfl (seq_of HT_.out HW_.out (by kernel_rfl)) (fun _ _ _ _ _ h => h) hHeld ?_
       iterate 8 (refine SeqOn.pure (v := ?_) (a' := ?_) rfl rfl (Or.inl ⟨by kernel_rfl, ?_⟩) ?_ ?_; rotate_left 2; (focus (intro w'; go_simp; with_reducible rfl)); (focus (first | (simp only [Act.put, List.setIfInBounds_toArray, List.set_cons_zero, List.set_cons_succ, i64_w, i32_w]; rfl) | rfl)))
       (refine SeqOn.take (v := ?_) (a' := ?_) rfl rfl (Or.inl ⟨by kernel_rfl, ?_⟩) ?_ ?_; rotate_left 2; (focus (intro w' s0; go_simp; with_reducible rfl)); (focus (first | (simp only [Act.put, List.setIfInBounds_toArray, List.set_cons_zero, List.set_cons_succ, i64_w, i32_w]; rfl) | rfl)))
       (refine SeqOn.pure (v := ?_) (a' := ?_) rfl rfl (Or.inl ⟨by kernel_rfl, ?_⟩) ?_ ?_; rotate_left 2; (focus (intro w'; go_simp; with_reducible rfl)); (focus (first | (simp only [Act.put, List.setIfInBounds_toArray, List.set_cons_zero, List.set_cons_succ, i64_w, i32_w]; rfl) | rfl)))
       (refine SeqOn.pure (v := ?_) (a' := ?_) rfl rfl (Or.inl ⟨by kernel_rfl, ?_⟩) ?_ ?_; rotate_left 2; (focus (intro w'; go_simp; with_reducible rfl)); (focus (first | (simp only [Act.put, List.setIfInBounds_toArray, List.set_cons_zero, List.set_cons_succ, i64_w, i32_w]; rfl) | rfl)))
       refine SeqOn.nil ?_
       clear hHeld hrem
       have hp1 := Kd.R_putg HOd.out (k : Int) (Go.bits .xor .u32 ak (IntKind.u32.wrap (2 ^ min mm 32)))
       rw [Int.toNat_natCast] at hp1
       have HP1 := As_.mk hp1.1
       have HG1 := As_.mk hp1.2
       obtain ⟨hc1, hf1⟩ := HZK.out
       clear hp1
       refine last_ (i := 11) (N := none) (bm 12 4095) rfl rfl (one_of HT_.out (by kernel_rfl)) (by decide) (fun K hK => ?_)
       refine skip_ (w1 := w15.setCell ⟨g12, k, none⟩ (.int .u32 (Go.bits .xor .u32 ak (IntKind.u32.wrap (2 ^ min mm 32))))) (by rfl) rfl (by first | (go_simp; done) | (go_simp; rfl)) ?_
       refine hK.out _ _ ?_
       clear hK K hc1 hf1
       have HB1 := As_.mk (pw_below_grown HBd.out (some g12) HBd.out.size HG1.out (fun k_ e_ => by injection e_ with e_; subst e_; exact G12.out))
       have HBz := As_.mk (pw_below_grown HBy.out (some g12) HBy.out.size HG1.out (fun k_ e_ => by injection e_ with e_; subst e_; exact GB12.out))
       clear HG1 HBd HOd HZK HBy
       have HUV := As_.mk (allU_set HLU.out k (xor_uw HUK.out HZZ.out))
       clear HUK HZZ
       generalize Go.bits .xor .u32 ak (IntKind.u32.wrap (2 ^ min mm 32)) = xx at HP1 HUV HB1 HBz ⊢
       generalize w15.setCell ⟨g12, k, none⟩ (.int .u32 xx) = w16 at HP1 HB1 HBz ⊢
       refine done_ (done_of HT_.out (by kernel_rfl)) ?_
       clear HT_ HW_
       have HQ1 := As_.mk (rows_cons (Kd.R_lower (Kd.R_below HP2.out HBz.out) HB9.out.size) HUY.out (by rw [HLY.out]; have := HLL.out; omega) (rows_cons (Kd.R_lower HP1.out (Nat.le_trans HB9.out.size HB2.out.size)) HUV.out (by rw [List.length_set]; have := HLL.out; omega) (rows_cons (Kd.R_take (Kd.R_below HO7.out HB1.out) (Nat.le_of_lt HKL.out)) (allU_take HLU.out k) (by rw [List.length_take]; have := HLL.out; omega) (rows_nil _ _))))
       obtain ⟨i33, hi33, _⟩ := info_parts info33
       have hcut := cut_to (P := Try.prog) 26 33 .i64 Try.underlying26 hi33 A7 L.length c7 (k : Int) (Int.natCast_nonneg _) (by have := HKL.out; omega) (Kd.R_reads' HO7.out).2.1
       simp only [Int.toNat_natCast] at hcut
       have HBo := As_.mk (HB9.out.trans (HB1.out.mono HB9.out.size))
       clear hi33
       go_wp2_with (first | ((with_reducible refine gate_dst (N := 123) rfl ?_); refine Kd.R_lit kS (w0 := wo) wo.heap.size 26 ?hg (N := 123) ?hd (xs := [((⟨some ⟨g11, 0, none⟩, L.length, c11⟩, yy) : SL × List Int), ((⟨some ⟨g12, 0, none⟩, L.length, c12⟩, L.set k xx) : SL × List Int), ((⟨A7, k, c7⟩, L.take k) : SL × List Int)]) (inner := [encS ((⟨some ⟨g11, 0, none⟩, L.length, c11⟩, yy) : SL × List Int), encS ((⟨some ⟨g12, 0, none⟩, L.length, c12⟩, L.set k xx) : SL × List Int), encS ((⟨A7, k, c7⟩, L.take k) : SL × List Int)]) (ok := fun _ => True) (okp := fun _ => True) ?hr ?hp (fun _ hk => hk) trivial HBo.out (bY_ HBo.out) (by simp) ?_; (case hd => rfl); (case hg => rfl); (case hr => first | (go_simp; done) | (go_simp; rfl)); (case hp => exact (Reps.one (show Kd.M kS _ _ _ ((⟨some ⟨g11, 0, none⟩, L.length, c11⟩, yy) : SL × List Int) [encS ((⟨some ⟨g11, 0, none⟩, L.length, c11⟩, yy) : SL × List Int)] from rfl) (Reps.one (show Kd.M kS _ _ _ ((⟨some ⟨g12, 0, none⟩, L.length, c12⟩, L.set k xx) : SL × List Int) [encS ((⟨some ⟨g12, 0, none⟩, L.length, c12⟩, L.set k xx) : SL × List Int)] from rfl) (Reps.one (show Kd.M kS _ _ _ ((⟨A7, k, c7⟩, L.take k) : SL × List Int) [encS ((⟨A7, k, c7⟩, L.take k) : SL × List Int)] from rfl) (Reps.none _ _))))); intro v123_ w17 ho hb hg hnew; obtain ⟨A123, c123, e123⟩ := Kd.R_slice ho; replace e123 : v123_ = .slice A123 3 c123 := e123; subst e123; have HO123 := As_.mk ho; have hb8 := grown_none hg; have HQ2 := As_.mk (Rows.below HQ1.out hb8); have HB17 := As_.mk (HB1.out.trans (hb8.mono HB1.out.size)); have HBo2 := As_.mk hb; clear ho hb hg hnew hb8) | ((with_reducible refine gate_builtin (b := .append) (xs := #[.tmp 117, .tmp 123]) rfl ?_); at_builtin; refine Kd.R_append_row encS zS (h1 := fun _ => rfl) (w0 := wo) wo.heap.size rfl (.tmp 117) (.tmp 123) 61 26 (.slice none 0 0) 24 rfl Try.underlying61 info26 rfl (by decide) (.slice A9 ps.length c9) ps [((⟨some ⟨g11, 0, none⟩, L.length, c11⟩, yy) : SL × List Int), ((⟨some ⟨g12, 0, none⟩, L.length, c12⟩, L.set k xx) : SL × List Int), ((⟨A7, k, c7⟩, L.take k) : SL × List Int)] A123 3 c123 (fun _ => True) rfl rfl (fun _ _ => trivial) ?aO ?aR ?aB ?aS ?aL ?_; (case aO => exact Kd.R_below HO9.out HB17.out); (case aR => exact (Kd.R_reads' HO123.out).2.2); (case aB => exact HBo2.out); (case aS => exact bY_ HBo2.out); (case aL => have := HPS.out; have := HKL.out; have := HLL.out; omega); intro v124 w18 ho hb hg hat; have HO18 := As_.mk ho; have HB18 := As_.mk hb; have HR18 := As_.mk (Rows.append (Rows.over (Rows.below HRS.out HB17.out) (Kd.R_below HO9.out HB17.out) hg) (Rows.over HQ2.out (Kd.R_below HO9.out HB17.out) hg)); have HO718 := As_.mk (Kd.R_over' (Kd.R_below HO7.out HB17.out) (Kd.R_typed (Kd.R_below HO9.out HB17.out)) ty33 hg); have HO418 := As_.mk (Kd.R_over' (Kd.R_below HO4.out HB17.out) (Kd.R_typed (Kd.R_below HO9.out HB17.out)) ty33 hg); clear ho hb hg hat))
       refine ⟨⟨k + 1, ps ++ [((⟨some ⟨g11, 0, none⟩, L.length, c11⟩, yy) : SL × List Int), ((⟨some ⟨g12, 0, none⟩, L.length, c12⟩, L.set k xx) : SL × List Int), ((⟨A7, k, c7⟩, L.take k) : SL × List Int)], by have := HKL.out; omega, by rw [List.length_append]; have := HPS.out; simp; omega, by congr 1, ⟨HO18.out⟩, ⟨HR18.out⟩, ⟨HO718.out⟩, ⟨HO418.out⟩, ⟨HB18.out⟩⟩, ?_⟩
       rw [hw3]
       show L.length - (((k + 1 : Nat) : Int)).toNat < L.length - ((k : Nat) : Int).toNat
       rw [Int.toNat_natCast, Int.toNat_natCast]
       have := HKL.out
       omega
      obtain rfl : k = L.length := by omega
      have q5 : ((L.length : Int) < (L.length : Int)) = False := eq_false (by omega)
      have q6 : (L.length < L.length) = False := eq_false (by omega)
      clear hkl hk
      have h9 := HO9.out
      obtain ⟨A9, c9, e9⟩ := Kd.R_slice h9
      subst e9
      clear h9
      go_wp2
      clear q5 q6
      rename World => wq
      have HPL : As_ (ps.length ≤ 15) := ⟨by have := HLL.out; omega⟩
      clear hps
      go_loopw [13] (fun v13 wr => ∃ r : Nat, r ≤ ps.length ∧ v13 = .int .i64 r ∧ As_ (Below wq.heap.size wq wr)) (fun v13 _ => ps.length - (intOf v13).toNat)
      case atStart => exact ⟨0, Nat.zero_le _, rfl, ⟨Below.refl _ _⟩⟩
      case round =>
       obtain ⟨r, hr, rfl, HBq⟩ := hrel
       by_cases hrl : r < ps.length
       ·have p5 : ((0 : Int) ≤ (r : Int)) = True := eq_true (Int.natCast_nonneg _)
        have q5 : ((r : Int) < (ps.length : Int)) = True := eq_true (by omega)
        have q6 : (r < ps.length) = True := eq_true hrl
        have HRL := As_.mk hrl
        have hw3 : wrap64 ((r : Int) + 1) = ((r + 1 : Nat) : Int) := by have := HPL.out; unfold wrap64; omega
        have hps9 := (Kd.R_reads' (Kd.R_below HO9.out HBq.out)).2.2
        obtain ⟨ad9, e9, hx9⟩ := at_head hps9 r hrl
        subst e9
        have hpm : ps.getD r zS ∈ ps := by rw [List.getD_eq_getElem?_getD, List.getElem?_eq_getElem hrl]; exact List.getElem_mem hrl
        obtain ⟨hpR, hpU, hp5⟩ := HRS.out _ hpm
        generalize ps.getD r zS = p at hx9 hpR hpU hp5
        obtain ⟨⟨Ap, np, cp⟩, M⟩ := p
        have hnp : np = M.length := by obtain ⟨A_, c_, e_⟩ := Kd.R_slice hpR; injection e_
        subst hnp
        have HPR : As_ (Kd.R (Kd.int .u32) 33 wq wo.heap.size (fun _ => True) (.slice Ap M.length cp) M) := ⟨hpR⟩
        have HPU : As_ (AllU M) := ⟨hpU⟩
        have hxx : wr.cell? (ad9.add r) = some (.slice Ap M.length cp) := hx9
        have HX9 := As_.mk hxx
        clear hrl hr hps9 hpm hpR hpU hp5 hx9
        rename World => wk
        have HBk := As_.mk (Below.refl wk.heap.size wk)
        cases h4 : decide (M.length = 4) with
        | false =>
         have hm4 := of_decide_eq_false h4
         have c1 : ((M.length : Int) == 4) = false := beq_eq_false_iff_ne.mpr (by omega)
         have c2 : decide (M.length = 4) = false := h4
         have c3 : (M.length = 4) = False := eq_false hm4
         have HM4 := As_.mk hm4
         clear hm4 h4
         go_wp2_with (first | (go_at_call 21; refine (bundle2_calls Ap cp M _ (Kd.R_reads' (Kd.R_below HPR.out HBq.out)).2.2 HPU.out).mono ?_; rintro e w1_ ⟨rfl, hb⟩; have HB1 := As_.mk (HBk.out.trans (hb.mono HBk.out.size)); have y1 : w1_.cell? (ad9.add r) = some (.slice Ap M.length cp) := pw_cell_below hb HX9.out; clear hb) | ((with_reducible refine gate_dst (N := 14) rfl ?_); refine box_event ?hg (N := 14) ?hd (cs := (bunC z52).toArray) (t := 52) ?hr ?_; (case hd => rfl); (case hg => rfl); (case hr => first | (go_simp; done) | (go_simp; rfl)); intro g14 hg_ w2_ hbox hb; have HB2 := As_.mk (HB1.out.trans (hb.mono HB1.out.size)); have BK14 := As_.mk hbox; have G14 := As_.mk (show wk.heap.size ≤ g14 from by rw [hg_]; exact HB1.out.size); clear hbox hb hg_) | ((with_reducible refine gate_store (t := 52) (p := 14) rfl ?_); obtain ⟨h7a, h7b⟩ := box52 BK14.out (bunR2 M); have H7A := As_.mk h7a; have H7B := As_.mk h7b; clear h7a h7b; refine store_event (t := 52) (p := 14) (v := .tmp 137) (w1 := w2_.setCells g14 0 (bunC (bunR2 M))) ?hg ?ho ?hn ?hr ?_; (case ho => rfl); (case hg => rfl); (case hn => rfl); (case hr => exact exec_store rfl rfl rfl H7B.out); intro w3_ hw_; have BK143 := As_.mk (at_ hw_ H7A.out); have HB3 := As_.mk (bset_ hw_ HB2.out HB2.out.size G14.out); clear hw_ H7A H7B) | ((with_reducible refine gate_dst (N := 16) rfl ?_); refine box_event ?hg (N := 16) ?hd (cs := (bunC z52).toArray) (t := 52) ?hr ?_; (case hd => rfl); (case hg => rfl); (case hr => first | (go_simp; done) | (go_simp; rfl)); intro g16 hg_ w4_ hbox hb; have HB4 := As_.mk (HB3.out.trans (hb.mono HB3.out.size)); have BK16 := As_.mk hbox; have BK144 := As_.mk (kB_ BK143.out hb); have G16 := As_.mk (show wk.heap.size ≤ g16 from by rw [hg_]; exact HB3.out.size); have N1416 := As_.mk (show g14 ≠ g16 from by rw [hg_]; exact Nat.ne_of_lt (blk_lt BK143.out)); have y4 : w4_.cell? (ad9.add r) = some (.slice Ap M.length cp) := pw_cell_below HB4.out HX9.out; clear hbox hb hg_))
         clear c1 c2 c3
         go_loopw [17, 18] (fun v17 v18 wr => ∃ (s : Nat) (o : Bool) (d : S52), s ≤ 4 ∧ v18 = .int .i64 s ∧ v17 = .bool o ∧ As_ (o = true → M.length = 4 ∧ okUp M s = true ∧ d = upB M s) ∧ As_ (o = false → good4 M = false) ∧ As_ (wr.heap[g14]? = some (.cells (bunC (bunR2 M)).toArray 52 (0, 0))) ∧ As_ (wr.heap[g16]? = some (.cells (bunC d).toArray 52 (0, 0))) ∧ As_ (Below wk.heap.size wk wr)) (fun _ v18 _ => 4 - (intOf v18).toNat)
         case atStart => exact ⟨0, false, z52, by omega, rfl, rfl, ⟨fun h_ => by cases h_⟩, ⟨fun _ => by unfold good4; rw [decide_eq_false HM4.out]; rfl⟩, ⟨BK144.out⟩, ⟨BK16.out⟩, ⟨HB4.out⟩⟩
         case round =>
          clear BK144 BK16 HB4 BK143 HB3 BK14 HB2 HB1 HBk y4
          obtain ⟨s, o, d, hs4, rfl, rfl, HT, HF, BK14, BK16, HBs⟩ := hrel
          have p7 : ((0 : Int) ≤ (s : Int)) = True := eq_true (Int.natCast_nonneg _)
          by_cases hs : s < 4
          ·have q9 : ((s : Int) < 4) = True := eq_true (by omega)
           have q10 : (s < 4) = True := eq_true hs
           have HSS := As_.mk hs
           have hw4 : wrap64 ((s : Int) + 1) = ((s + 1 : Nat) : Int) := by unfold wrap64; omega
           cases o with
           | false =>
            clear hs hs4
            have hgd : good4 M = false := HF.out rfl
            have hbr : bunR2 M = z52 := by unfold bunR2; rw [if_neg (by rw [hgd]; decide)]
            have BKa0 : As_ (wr.heap[g14]? = some (.cells (bunC z52).toArray 52 (0, 0))) := ⟨by rw [← hbr]; exact BK14.out⟩
            have BKb0 := As_.mk BK16.out
            have HBx0 := As_.mk HBs.out
            rw [show bunE2 M = 8 from by unfold bunE2; rw [if_neg (by rw [hgd]; decide)]]
            clear hgd hbr BK14 BK16 HBs HT HF
            go_wp2_with (first | (go_at_call 11; refine (w4_num.calls 8 8 _ rfl).mono ?_; rintro e w' ⟨rfl, ⟨nd, rfl⟩⟩; have HBx2 := As_.mk (bN_ HBx1.out nd); have BKa2 := As_.mk (kN_ BKa1.out nd); have BKb2 := As_.mk (kN_ BKb1.out nd); generalize World.drewN wx1 nd = wx2 at HBx2 BKa2 BKb2 ⊢) | (go_at_call 11; refine (w4_num.calls 8 8 _ rfl).mono ?_; rintro e w' ⟨rfl, ⟨nd, rfl⟩⟩; have HBx1 := As_.mk (bN_ HBx0.out nd); have BKa1 := As_.mk (kN_ BKa0.out nd); have BKb1 := As_.mk (kN_ BKb0.out nd); generalize World.drewN wr nd = wx1 at HBx1 BKa1 BKb1 ⊢) | ((with_reducible refine gate_dst (N := 194) rfl ?_); refine val_event_g (N := 194) (w1 := wx2) (v := .agg (bunC z52).toArray) ?hw ?hd ?hr ?_; (case hd => rfl); (case hw => rfl); (case hr => exact exec_load rfl rfl (load52 BKa2.out))) | ((with_reducible refine gate_dst (N := 195) rfl ?_); refine val_event_g (N := 195) (w1 := wx2) (v := .agg (bunC z52).toArray) ?hw ?hd ?hr ?_; (case hd => rfl); (case hw => rfl); (case hr => first | (go_simp; done) | (go_simp; rfl))) | ((with_reducible refine gate_dst (N := 196) rfl ?_); refine val_event_g (N := 196) (w1 := wx2) (v := .bool false) ?hw ?hd ?hr ?_; (case hd => rfl); (case hw => rfl); (case hr => exact exec_bin rfl rfl rfl (guard52 _ _ _ _ _) (run_neq52 _ _))))
            refine ⟨⟨r + 1, by have := HRL.out; omega, by congr 1, ⟨HBq.out.trans (HBx2.out.mono HBq.out.size)⟩⟩, ?_⟩
            rw [hw3]
            show ps.length - (((r + 1 : Nat) : Int)).toNat < ps.length - ((r : Nat) : Int).toNat
            rw [Int.toNat_natCast, Int.toNat_natCast]
            have := HRL.out
            omega
           | true =>
            obtain ⟨hm4, hok, rfl⟩ := HT.out rfl
            have hsM : s < M.length := by omega
            have hCM := (Kd.R_reads' (Kd.R_below HPR.out (HBq.out.trans (HBs.out.mono HBq.out.size)))).2.2
            obtain ⟨adM, eM, hxm⟩ := Kd.at_int hCM (s : Int) (Int.natCast_nonneg _) (by omega)
            subst eM
            rw [Int.toNat_natCast] at hxm
            have hux := rd_uw HPU.out s hsM
            generalize hxe : rd M (s : Int) = x at hxm hux
            have HX := As_.mk hxe
            have HUX := As_.mk hux
            have HOK := As_.mk hok
            have HM44 := As_.mk hm4
            have q11 : ((s : Int) < (M.length : Int)) = True := eq_true (by omega)
            have q12 : (s < M.length) = True := eq_true hsM
            have y9 : wr.cell? (ad9.add r) = some (.slice (some adM) M.length cp) := pw_cell_below HBs.out HX9.out
            clear hxe hux hok hm4 hsM hCM hs hs4
            cases hW : isWord x with
            | false =>
             have HNG : As_ (good4 M = false) := ⟨by unfold good4; rw [show okUp M 4 = false from okUp_not M s (by rw [HX.out]; unfold okW; rw [hW]; rfl) 4 HSS.out, Bool.and_false]⟩
             have HUN := As_.mk (fun W => unword_calls x HUX.out W)
             rw [hW] at HUN
             clear hW
             go_wp2_with (first | (go_at_call 13; refine (HUN.out _).mono ?_; rintro e w1_ ⟨rfl, hb⟩; have HB1 := As_.mk (HBs.out.trans (hb.mono HBs.out.size)); have BK141 := As_.mk (kB_ BK14.out hb); have BK161 := As_.mk (kB_ BK16.out hb); clear hb) | ((with_reducible refine gate_dst (N := 19) rfl ?_); refine box_event ?hg (N := 19) ?hd (cs := (insC z35).toArray) (t := 35) ?hr ?_; (case hd => rfl); (case hg => rfl); (case hr => first | (go_simp; done) | (go_simp; rfl)); intro g19 hg_ w2_ hbox hb; have HB2 := As_.mk (HB1.out.trans (hb.mono HB1.out.size)); have BK19 := As_.mk hbox; have BK142 := As_.mk (kB_ BK141.out hb); have BK162 := As_.mk (kB_ BK161.out hb); have G19 := As_.mk (show wk.heap.size ≤ g19 from by rw [hg_]; exact HB1.out.size); have N1419 := As_.mk (show g14 ≠ g19 from by rw [hg_]; exact Nat.ne_of_lt (blk_lt BK141.out)); have N1619 := As_.mk (show g16 ≠ g19 from by rw [hg_]; exact Nat.ne_of_lt (blk_lt BK161.out)); clear hbox hb hg_) | ((with_reducible refine gate_store (t := 35) (p := 19) rfl ?_); obtain ⟨h7a, h7b⟩ := box35 BK19.out (unwS x); have H7A := As_.mk h7a; have H7B := As_.mk h7b; clear h7a h7b; refine store_event (t := 35) (p := 19) (v := .tmp 161) (w1 := w2_.setCells g19 0 (insC (unwS x))) ?hg ?ho ?hn ?hr ?_; (case ho => rfl); (case hg => rfl); (case hn => rfl); (case hr => exact exec_store rfl rfl rfl H7B.out); intro w3_ hw_; have BK193 := As_.mk (at_ hw_ H7A.out); have BK143 := As_.mk (far_ hw_ BK142.out N1419.out); have BK163 := As_.mk (far_ hw_ BK162.out N1619.out); have HB3 := As_.mk (bset_ hw_ HB2.out HB2.out.size G19.out); clear hw_ H7A H7B) | ((with_reducible refine gate_dst (N := 164) rfl ?_); refine val_event (N := 164) (w1 := w3_) (v := .agg (insC (unwS x)).toArray) ?hg ?hd ?hr ?_; (case hd => rfl); (case hg => rfl); (case hr => exact exec_load rfl rfl (load35 BK193.out))) | ((with_reducible refine gate_store (t := 35) (p := 165) rfl ?_); obtain ⟨h7a, h7b⟩ := box_put BK163.out s HSS.out (unwS x); have H7A := As_.mk h7a; have H7B := As_.mk h7b; clear h7a h7b; refine store_event (t := 35) (p := 165) (v := .tmp 164) (w1 := w3_.setCells g16 (s * 6) (insC (unwS x))) ?hg ?ho ?hn ?hr ?_; (case ho => rfl); (case hg => rfl); (case hn => rfl); (case hr => exact exec_store rfl rfl rfl H7B.out); intro w4_ hw_; have BK164 := As_.mk (at_ hw_ H7A.out); have BK144 := As_.mk (far_ hw_ BK143.out N1416.out); have BK194 := As_.mk (far_ hw_ BK193.out (Ne.symm N1619.out)); have HB4 := As_.mk (bset_ hw_ HB3.out HB3.out.size G16.out); clear hw_ H7A H7B))
             refine ⟨⟨s + 1, false, put52 (upB M s) s (unwS x), by have := HSS.out; omega, by congr 1, rfl, ⟨fun h_ => by cases h_⟩, ⟨fun _ => HNG.out⟩, ⟨BK144.out⟩, ⟨BK164.out⟩, ⟨HB4.out⟩⟩, ?_⟩
             rw [hw4]
             show 4 - (((s + 1 : Nat) : Int)).toNat < 4 - ((s : Nat) : Int).toNat
             rw [Int.toNat_natCast, Int.toNat_natCast]
             have := HSS.out
             omega
            | true =>
             have HUN := As_.mk (fun W => unword_calls x HUX.out W)
             rw [hW] at HUN
             have hop := isWord_op hW
             have hf0 : (unwS x).f0 = x / 67108864 := by unfold unwS; rw [if_pos hW]
             have HWW := As_.mk hW
             have hMY := fun W => r3_May.calls 20 (unwS x).f0 (s : Int) _ W (ref_may_eq (Nat.le_refl _) _ _ (by rw [hf0]; exact hop.1) (by rw [hf0]; exact hop.2) (Int.natCast_nonneg _) (by have := HSS.out; omega))
             have HF0 := As_.mk hf0
             clear hop hf0 hW
             cases hM : mayOp (unwS x).f0 (s : Int) with
             | false =>
              rw [hM] at hMY
              have HMY := As_.mk hMY
              have HNG : As_ (good4 M = false) := ⟨by unfold good4; rw [show okUp M 4 = false from okUp_not M s (by rw [HX.out]; unfold okW; rw [HWW.out, ← HF0.out, hM]; rfl) 4 HSS.out, Bool.and_false]⟩
              clear hM hMY
              go_wp2_with (first | (go_at_call 13; refine (HUN.out _).mono ?_; rintro e w1_ ⟨rfl, hb⟩; have HB1 := As_.mk (HBs.out.trans (hb.mono HBs.out.size)); have BK141 := As_.mk (kB_ BK14.out hb); have BK161 := As_.mk (kB_ BK16.out hb); clear hb) | ((with_reducible refine gate_dst (N := 19) rfl ?_); refine box_event ?hg (N := 19) ?hd (cs := (insC z35).toArray) (t := 35) ?hr ?_; (case hd => rfl); (case hg => rfl); (case hr => first | (go_simp; done) | (go_simp; rfl)); intro g19 hg_ w2_ hbox hb; have HB2 := As_.mk (HB1.out.trans (hb.mono HB1.out.size)); have BK19 := As_.mk hbox; have BK142 := As_.mk (kB_ BK141.out hb); have BK162 := As_.mk (kB_ BK161.out hb); have G19 := As_.mk (show wk.heap.size ≤ g19 from by rw [hg_]; exact HB1.out.size); have N1419 := As_.mk (show g14 ≠ g19 from by rw [hg_]; exact Nat.ne_of_lt (blk_lt BK141.out)); have N1619 := As_.mk (show g16 ≠ g19 from by rw [hg_]; exact Nat.ne_of_lt (blk_lt BK161.out)); clear hbox hb hg_) | ((with_reducible refine gate_store (t := 35) (p := 19) rfl ?_); obtain ⟨h7a, h7b⟩ := box35 BK19.out (unwS x); have H7A := As_.mk h7a; have H7B := As_.mk h7b; clear h7a h7b; refine store_event (t := 35) (p := 19) (v := .tmp 161) (w1 := w2_.setCells g19 0 (insC (unwS x))) ?hg ?ho ?hn ?hr ?_; (case ho => rfl); (case hg => rfl); (case hn => rfl); (case hr => exact exec_store rfl rfl rfl H7B.out); intro w3_ hw_; have BK193 := As_.mk (at_ hw_ H7A.out); have BK143 := As_.mk (far_ hw_ BK142.out N1419.out); have BK163 := As_.mk (far_ hw_ BK162.out N1619.out); have HB3 := As_.mk (bset_ hw_ HB2.out HB2.out.size G19.out); clear hw_ H7A H7B) | ((with_reducible refine gate_dst (N := 164) rfl ?_); refine val_event (N := 164) (w1 := w3_) (v := .agg (insC (unwS x)).toArray) ?hg ?hd ?hr ?_; (case hd => rfl); (case hg => rfl); (case hr => exact exec_load rfl rfl (load35 BK193.out))) | ((with_reducible refine gate_store (t := 35) (p := 165) rfl ?_); obtain ⟨h7a, h7b⟩ := box_put BK163.out s HSS.out (unwS x); have H7A := As_.mk h7a; have H7B := As_.mk h7b; clear h7a h7b; refine store_event (t := 35) (p := 165) (v := .tmp 164) (w1 := w3_.setCells g16 (s * 6) (insC (unwS x))) ?hg ?ho ?hn ?hr ?_; (case ho => rfl); (case hg => rfl); (case hn => rfl); (case hr => exact exec_store rfl rfl rfl H7B.out); intro w4_ hw_; have BK164 := As_.mk (at_ hw_ H7A.out); have BK144 := As_.mk (far_ hw_ BK143.out N1416.out); have BK194 := As_.mk (far_ hw_ BK193.out (Ne.symm N1619.out)); have HB4 := As_.mk (bset_ hw_ HB3.out HB3.out.size G16.out); have y19 : w4_.cell? ⟨g19, 0, none⟩ = some (.int .i64 (unwS x).f0) := (bC_ BK194.out 0).trans rfl; clear hw_ H7A H7B) | (go_at_call 22; refine (HMY.out _).mono ?_; rintro e w5_ ⟨rfl, hb⟩; have HB5 := As_.mk (HB4.out.trans (hb.mono HB4.out.size)); have BK145 := As_.mk (kB_ BK144.out hb); have BK165 := As_.mk (kB_ BK164.out hb); clear hb))
              refine ⟨⟨s + 1, false, put52 (upB M s) s (unwS x), by have := HSS.out; omega, by congr 1, rfl, ⟨fun h_ => by cases h_⟩, ⟨fun _ => HNG.out⟩, ⟨BK145.out⟩, ⟨BK165.out⟩, ⟨HB5.out⟩⟩, ?_⟩
              rw [hw4]
              show 4 - (((s + 1 : Nat) : Int)).toNat < 4 - ((s : Nat) : Int).toNat
              rw [Int.toNat_natCast, Int.toNat_natCast]
              have := HSS.out
              omega
             | true =>
              rw [hM] at hMY
              have HMY := As_.mk hMY
              have HYS : As_ (okUp M (s + 1) = true) := ⟨by rw [okUp, HOK.out, HX.out]; unfold okW; rw [HWW.out, ← HF0.out, hM]; rfl⟩
              have HYB : As_ (put52 (upB M s) s (unwS x) = upB M (s + 1)) := ⟨by rw [upB, HX.out]⟩
              clear hM hMY
              go_wp2_with (first | (go_at_call 13; refine (HUN.out _).mono ?_; rintro e w1_ ⟨rfl, hb⟩; have HB1 := As_.mk (HBs.out.trans (hb.mono HBs.out.size)); have BK141 := As_.mk (kB_ BK14.out hb); have BK161 := As_.mk (kB_ BK16.out hb); clear hb) | ((with_reducible refine gate_dst (N := 19) rfl ?_); refine box_event ?hg (N := 19) ?hd (cs := (insC z35).toArray) (t := 35) ?hr ?_; (case hd => rfl); (case hg => rfl); (case hr => first | (go_simp; done) | (go_simp; rfl)); intro g19 hg_ w2_ hbox hb; have HB2 := As_.mk (HB1.out.trans (hb.mono HB1.out.size)); have BK19 := As_.mk hbox; have BK142 := As_.mk (kB_ BK141.out hb); have BK162 := As_.mk (kB_ BK161.out hb); have G19 := As_.mk (show wk.heap.size ≤ g19 from by rw [hg_]; exact HB1.out.size); have N1419 := As_.mk (show g14 ≠ g19 from by rw [hg_]; exact Nat.ne_of_lt (blk_lt BK141.out)); have N1619 := As_.mk (show g16 ≠ g19 from by rw [hg_]; exact Nat.ne_of_lt (blk_lt BK161.out)); clear hbox hb hg_) | ((with_reducible refine gate_store (t := 35) (p := 19) rfl ?_); obtain ⟨h7a, h7b⟩ := box35 BK19.out (unwS x); have H7A := As_.mk h7a; have H7B := As_.mk h7b; clear h7a h7b; refine store_event (t := 35) (p := 19) (v := .tmp 161) (w1 := w2_.setCells g19 0 (insC (unwS x))) ?hg ?ho ?hn ?hr ?_; (case ho => rfl); (case hg => rfl); (case hn => rfl); (case hr => exact exec_store rfl rfl rfl H7B.out); intro w3_ hw_; have BK193 := As_.mk (at_ hw_ H7A.out); have BK143 := As_.mk (far_ hw_ BK142.out N1419.out); have BK163 := As_.mk (far_ hw_ BK162.out N1619.out); have HB3 := As_.mk (bset_ hw_ HB2.out HB2.out.size G19.out); clear hw_ H7A H7B) | ((with_reducible refine gate_dst (N := 164) rfl ?_); refine val_event (N := 164) (w1 := w3_) (v := .agg (insC (unwS x)).toArray) ?hg ?hd ?hr ?_; (case hd => rfl); (case hg => rfl); (case hr => exact exec_load rfl rfl (load35 BK193.out))) | ((with_reducible refine gate_store (t := 35) (p := 165) rfl ?_); obtain ⟨h7a, h7b⟩ := box_put BK163.out s HSS.out (unwS x); have H7A := As_.mk h7a; have H7B := As_.mk h7b; clear h7a h7b; refine store_event (t := 35) (p := 165) (v := .tmp 164) (w1 := w3_.setCells g16 (s * 6) (insC (unwS x))) ?hg ?ho ?hn ?hr ?_; (case ho => rfl); (case hg => rfl); (case hn => rfl); (case hr => exact exec_store rfl rfl rfl H7B.out); intro w4_ hw_; have BK164 := As_.mk (at_ hw_ H7A.out); have BK144 := As_.mk (far_ hw_ BK143.out N1416.out); have BK194 := As_.mk (far_ hw_ BK193.out (Ne.symm N1619.out)); have HB4 := As_.mk (bset_ hw_ HB3.out HB3.out.size G16.out); have y19 : w4_.cell? ⟨g19, 0, none⟩ = some (.int .i64 (unwS x).f0) := (bC_ BK194.out 0).trans rfl; clear hw_ H7A H7B) | (go_at_call 22; refine (HMY.out _).mono ?_; rintro e w5_ ⟨rfl, hb⟩; have HB5 := As_.mk (HB4.out.trans (hb.mono HB4.out.size)); have BK145 := As_.mk (kB_ BK144.out hb); have BK165 := As_.mk (kB_ BK164.out hb); clear hb))
              refine ⟨⟨s + 1, true, put52 (upB M s) s (unwS x), by have := HSS.out; omega, by congr 1, rfl, ⟨fun _ => ⟨HM44.out, HYS.out, HYB.out⟩⟩, ⟨fun h_ => by cases h_⟩, ⟨BK145.out⟩, ⟨BK165.out⟩, ⟨HB5.out⟩⟩, ?_⟩
              rw [hw4]
              show 4 - (((s + 1 : Nat) : Int)).toNat < 4 - ((s : Nat) : Int).toNat
              rw [Int.toNat_natCast, Int.toNat_natCast]
              have := HSS.out
              omega
          obtain rfl : s = 4 := by omega
          have q9 : (((4 : Nat) : Int) < 4) = False := eq_false (by omega)
          clear hs hs4
          cases o with
          | false =>
           have hgd : good4 M = false := HF.out rfl
           have hbr : bunR2 M = z52 := by unfold bunR2; rw [if_neg (by rw [hgd]; decide)]
           have BKa0 : As_ (wr.heap[g14]? = some (.cells (bunC z52).toArray 52 (0, 0))) := ⟨by rw [← hbr]; exact BK14.out⟩
           have BKb0 := As_.mk BK16.out
           have HBx0 := As_.mk HBs.out
           rw [show bunE2 M = 8 from by unfold bunE2; rw [if_neg (by rw [hgd]; decide)]]
           clear hgd hbr BK14 BK16 HBs HT HF
           go_wp2_with (first | (go_at_call 11; refine (w4_num.calls 8 8 _ rfl).mono ?_; rintro e w' ⟨rfl, ⟨nd, rfl⟩⟩; have HBx2 := As_.mk (bN_ HBx1.out nd); have BKa2 := As_.mk (kN_ BKa1.out nd); have BKb2 := As_.mk (kN_ BKb1.out nd); generalize World.drewN wx1 nd = wx2 at HBx2 BKa2 BKb2 ⊢) | (go_at_call 11; refine (w4_num.calls 8 8 _ rfl).mono ?_; rintro e w' ⟨rfl, ⟨nd, rfl⟩⟩; have HBx1 := As_.mk (bN_ HBx0.out nd); have BKa1 := As_.mk (kN_ BKa0.out nd); have BKb1 := As_.mk (kN_ BKb0.out nd); generalize World.drewN wr nd = wx1 at HBx1 BKa1 BKb1 ⊢) | ((with_reducible refine gate_dst (N := 194) rfl ?_); refine val_event_g (N := 194) (w1 := wx2) (v := .agg (bunC z52).toArray) ?hw ?hd ?hr ?_; (case hd => rfl); (case hw => rfl); (case hr => exact exec_load rfl rfl (load52 BKa2.out))) | ((with_reducible refine gate_dst (N := 195) rfl ?_); refine val_event_g (N := 195) (w1 := wx2) (v := .agg (bunC z52).toArray) ?hw ?hd ?hr ?_; (case hd => rfl); (case hw => rfl); (case hr => first | (go_simp; done) | (go_simp; rfl))) | ((with_reducible refine gate_dst (N := 196) rfl ?_); refine val_event_g (N := 196) (w1 := wx2) (v := .bool false) ?hw ?hd ?hr ?_; (case hd => rfl); (case hw => rfl); (case hr => exact exec_bin rfl rfl rfl (guard52 _ _ _ _ _) (run_neq52 _ _))))
           refine ⟨⟨r + 1, by have := HRL.out; omega, by congr 1, ⟨HBq.out.trans (HBx2.out.mono HBq.out.size)⟩⟩, ?_⟩
           rw [hw3]
           show ps.length - (((r + 1 : Nat) : Int)).toNat < ps.length - ((r : Nat) : Int).toNat
           rw [Int.toNat_natCast, Int.toNat_natCast]
           have := HRL.out
           omega
          | true =>
           have hgd := good4_of (HT.out rfl).1 (HT.out rfl).2.1
           have hbr : bunR2 M = upB M 4 := by unfold bunR2; rw [if_pos hgd]
           have hd := (HT.out rfl).2.2
           subst hd
           have BKa0 : As_ (wr.heap[g14]? = some (.cells (bunC (upB M 4)).toArray 52 (0, 0))) := ⟨by rw [← hbr]; exact BK14.out⟩
           have BKb0 := As_.mk BK16.out
           have HBx0 := As_.mk HBs.out
           rw [show bunE2 M = 0 from by unfold bunE2; rw [if_pos hgd]]
           clear hgd hbr BK14 BK16 HBs HT HF
           go_wp2_with (first | (go_at_call 11; refine (w4_num.calls 0 0 _ rfl).mono ?_; rintro e w' ⟨rfl, ⟨nd, rfl⟩⟩; have HBx1 := As_.mk (bN_ HBx0.out nd); have BKa1 := As_.mk (kN_ BKa0.out nd); have BKb1 := As_.mk (kN_ BKb0.out nd); generalize World.drewN wr nd = wx1 at HBx1 BKa1 BKb1 ⊢) | ((with_reducible refine gate_dst (N := 181) rfl ?_); refine val_event_g (N := 181) (w1 := wx1) (v := .agg (bunC (upB M 4)).toArray) ?hw ?hd ?hr ?_; (case hd => rfl); (case hw => rfl); (case hr => exact exec_load rfl rfl (load52 BKa1.out))) | ((with_reducible refine gate_dst (N := 182) rfl ?_); refine val_event_g (N := 182) (w1 := wx1) (v := .agg (bunC (upB M 4)).toArray) ?hw ?hd ?hr ?_; (case hd => rfl); (case hw => rfl); (case hr => exact exec_load rfl rfl (load52 BKb1.out))) | ((with_reducible refine gate_dst (N := 183) rfl ?_); refine val_event_g (N := 183) (w1 := wx1) (v := .bool false) ?hw ?hd ?hr ?_; (case hd => rfl); (case hw => rfl); (case hr => exact exec_bin rfl rfl rfl (guard52 _ _ _ _ _) (run_neq52 _ _))))
           refine ⟨⟨r + 1, by have := HRL.out; omega, by congr 1, ⟨HBq.out.trans (HBx1.out.mono HBq.out.size)⟩⟩, ?_⟩
           rw [hw3]
           show ps.length - (((r + 1 : Nat) : Int)).toNat < ps.length - ((r : Nat) : Int).toNat
           rw [Int.toNat_natCast, Int.toNat_natCast]
           have := HRL.out
           omega
        | true =>
         have hm4 := of_decide_eq_true h4
         have c1 : ((M.length : Int) == 4) = true := beq_iff_eq.mpr (by omega)
         have c2 : decide (M.length = 4) = true := h4
         have c3 : (M.length = 4) = True := eq_true hm4
         have HM4 := As_.mk hm4
         clear hm4 h4
         go_wp2_with (first | (go_at_call 21; refine (bundle2_calls Ap cp M _ (Kd.R_reads' (Kd.R_below HPR.out HBq.out)).2.2 HPU.out).mono ?_; rintro e w1_ ⟨rfl, hb⟩; have HB1 := As_.mk (HBk.out.trans (hb.mono HBk.out.size)); have y1 : w1_.cell? (ad9.add r) = some (.slice Ap M.length cp) := pw_cell_below hb HX9.out; clear hb) | ((with_reducible refine gate_dst (N := 14) rfl ?_); refine box_event ?hg (N := 14) ?hd (cs := (bunC z52).toArray) (t := 52) ?hr ?_; (case hd => rfl); (case hg => rfl); (case hr => first | (go_simp; done) | (go_simp; rfl)); intro g14 hg_ w2_ hbox hb; have HB2 := As_.mk (HB1.out.trans (hb.mono HB1.out.size)); have BK14 := As_.mk hbox; have G14 := As_.mk (show wk.heap.size ≤ g14 from by rw [hg_]; exact HB1.out.size); clear hbox hb hg_) | ((with_reducible refine gate_store (t := 52) (p := 14) rfl ?_); obtain ⟨h7a, h7b⟩ := box52 BK14.out (bunR2 M); have H7A := As_.mk h7a; have H7B := As_.mk h7b; clear h7a h7b; refine store_event (t := 52) (p := 14) (v := .tmp 137) (w1 := w2_.setCells g14 0 (bunC (bunR2 M))) ?hg ?ho ?hn ?hr ?_; (case ho => rfl); (case hg => rfl); (case hn => rfl); (case hr => exact exec_store rfl rfl rfl H7B.out); intro w3_ hw_; have BK143 := As_.mk (at_ hw_ H7A.out); have HB3 := As_.mk (bset_ hw_ HB2.out HB2.out.size G14.out); clear hw_ H7A H7B) | ((with_reducible refine gate_dst (N := 16) rfl ?_); refine box_event ?hg (N := 16) ?hd (cs := (bunC z52).toArray) (t := 52) ?hr ?_; (case hd => rfl); (case hg => rfl); (case hr => first | (go_simp; done) | (go_simp; rfl)); intro g16 hg_ w4_ hbox hb; have HB4 := As_.mk (HB3.out.trans (hb.mono HB3.out.size)); have BK16 := As_.mk hbox; have BK144 := As_.mk (kB_ BK143.out hb); have G16 := As_.mk (show wk.heap.size ≤ g16 from by rw [hg_]; exact HB3.out.size); have N1416 := As_.mk (show g14 ≠ g16 from by rw [hg_]; exact Nat.ne_of_lt (blk_lt BK143.out)); have y4 : w4_.cell? (ad9.add r) = some (.slice Ap M.length cp) := pw_cell_below HB4.out HX9.out; clear hbox hb hg_))
         clear c1 c2 c3
         go_loopw [17, 18] (fun v17 v18 wr => ∃ (s : Nat) (o : Bool) (d : S52), s ≤ 4 ∧ v18 = .int .i64 s ∧ v17 = .bool o ∧ As_ (o = true → M.length = 4 ∧ okUp M s = true ∧ d = upB M s) ∧ As_ (o = false → good4 M = false) ∧ As_ (wr.heap[g14]? = some (.cells (bunC (bunR2 M)).toArray 52 (0, 0))) ∧ As_ (wr.heap[g16]? = some (.cells (bunC d).toArray 52 (0, 0))) ∧ As_ (Below wk.heap.size wk wr)) (fun _ v18 _ => 4 - (intOf v18).toNat)
         case atStart => exact ⟨0, true, z52, by omega, rfl, rfl, ⟨fun _ => ⟨HM4.out, rfl, rfl⟩⟩, ⟨fun h_ => by cases h_⟩, ⟨BK144.out⟩, ⟨BK16.out⟩, ⟨HB4.out⟩⟩
         case round =>
          clear BK144 BK16 HB4 BK143 HB3 BK14 HB2 HB1 HBk y4
          obtain ⟨s, o, d, hs4, rfl, rfl, HT, HF, BK14, BK16, HBs⟩ := hrel
          have p7 : ((0 : Int) ≤ (s : Int)) = True := eq_true (Int.natCast_nonneg _)
          by_cases hs : s < 4
          ·have q9 : ((s : Int) < 4) = True := eq_true (by omega)
           have q10 : (s < 4) = True := eq_true hs
           have HSS := As_.mk hs
           have hw4 : wrap64 ((s : Int) + 1) = ((s + 1 : Nat) : Int) := by unfold wrap64; omega
           cases o with
           | false =>
            clear hs hs4
            have hgd : good4 M = false := HF.out rfl
            have hbr : bunR2 M = z52 := by unfold bunR2; rw [if_neg (by rw [hgd]; decide)]
            have BKa0 : As_ (wr.heap[g14]? = some (.cells (bunC z52).toArray 52 (0, 0))) := ⟨by rw [← hbr]; exact BK14.out⟩
            have BKb0 := As_.mk BK16.out
            have HBx0 := As_.mk HBs.out
            rw [show bunE2 M = 8 from by unfold bunE2; rw [if_neg (by rw [hgd]; decide)]]
            clear hgd hbr BK14 BK16 HBs HT HF
            go_wp2_with (first | (go_at_call 11; refine (w4_num.calls 8 8 _ rfl).mono ?_; rintro e w' ⟨rfl, ⟨nd, rfl⟩⟩; have HBx2 := As_.mk (bN_ HBx1.out nd); have BKa2 := As_.mk (kN_ BKa1.out nd); have BKb2 := As_.mk (kN_ BKb1.out nd); generalize World.drewN wx1 nd = wx2 at HBx2 BKa2 BKb2 ⊢) | (go_at_call 11; refine (w4_num.calls 8 8 _ rfl).mono ?_; rintro e w' ⟨rfl, ⟨nd, rfl⟩⟩; have HBx1 := As_.mk (bN_ HBx0.out nd); have BKa1 := As_.mk (kN_ BKa0.out nd); have BKb1 := As_.mk (kN_ BKb0.out nd); generalize World.drewN wr nd = wx1 at HBx1 BKa1 BKb1 ⊢) | ((with_reducible refine gate_dst (N := 194) rfl ?_); refine val_event_g (N := 194) (w1 := wx2) (v := .agg (bunC z52).toArray) ?hw ?hd ?hr ?_; (case hd => rfl); (case hw => rfl); (case hr => exact exec_load rfl rfl (load52 BKa2.out))) | ((with_reducible refine gate_dst (N := 195) rfl ?_); refine val_event_g (N := 195) (w1 := wx2) (v := .agg (bunC z52).toArray) ?hw ?hd ?hr ?_; (case hd => rfl); (case hw => rfl); (case hr => first | (go_simp; done) | (go_simp; rfl))) | ((with_reducible refine gate_dst (N := 196) rfl ?_); refine val_event_g (N := 196) (w1 := wx2) (v := .bool false) ?hw ?hd ?hr ?_; (case hd => rfl); (case hw => rfl); (case hr => exact exec_bin rfl rfl rfl (guard52 _ _ _ _ _) (run_neq52 _ _))))
            refine ⟨⟨r + 1, by have := HRL.out; omega, by congr 1, ⟨HBq.out.trans (HBx2.out.mono HBq.out.size)⟩⟩, ?_⟩
            rw [hw3]
            show ps.length - (((r + 1 : Nat) : Int)).toNat < ps.length - ((r : Nat) : Int).toNat
            rw [Int.toNat_natCast, Int.toNat_natCast]
            have := HRL.out
            omega
           | true =>
            obtain ⟨hm4, hok, rfl⟩ := HT.out rfl
            have hsM : s < M.length := by omega
            have hCM := (Kd.R_reads' (Kd.R_below HPR.out (HBq.out.trans (HBs.out.mono HBq.out.size)))).2.2
            obtain ⟨adM, eM, hxm⟩ := Kd.at_int hCM (s : Int) (Int.natCast_nonneg _) (by omega)
            subst eM
            rw [Int.toNat_natCast] at hxm
            have hux := rd_uw HPU.out s hsM
            generalize hxe : rd M (s : Int) = x at hxm hux
            have HX := As_.mk hxe
            have HUX := As_.mk hux
            have HOK := As_.mk hok
            have HM44 := As_.mk hm4
            have q11 : ((s : Int) < (M.length : Int)) = True := eq_true (by omega)
            have q12 : (s < M.length) = True := eq_true hsM
            have y9 : wr.cell? (ad9.add r) = some (.slice (some adM) M.length cp) := pw_cell_below HBs.out HX9.out
            clear hxe hux hok hm4 hsM hCM hs hs4
            cases hW : isWord x with
            | false =>
             have HNG : As_ (good4 M = false) := ⟨by unfold good4; rw [show okUp M 4 = false from okUp_not M s (by rw [HX.out]; unfold okW; rw [hW]; rfl) 4 HSS.out, Bool.and_false]⟩
             have HUN := As_.mk (fun W => unword_calls x HUX.out W)
             rw [hW] at HUN
             clear hW
             go_wp2_with (first | (go_at_call 13; refine (HUN.out _).mono ?_; rintro e w1_ ⟨rfl, hb⟩; have HB1 := As_.mk (HBs.out.trans (hb.mono HBs.out.size)); have BK141 := As_.mk (kB_ BK14.out hb); have BK161 := As_.mk (kB_ BK16.out hb); clear hb) | ((with_reducible refine gate_dst (N := 19) rfl ?_); refine box_event ?hg (N := 19) ?hd (cs := (insC z35).toArray) (t := 35) ?hr ?_; (case hd => rfl); (case hg => rfl); (case hr => first | (go_simp; done) | (go_simp; rfl)); intro g19 hg_ w2_ hbox hb; have HB2 := As_.mk (HB1.out.trans (hb.mono HB1.out.size)); have BK19 := As_.mk hbox; have BK142 := As_.mk (kB_ BK141.out hb); have BK162 := As_.mk (kB_ BK161.out hb); have G19 := As_.mk (show wk.heap.size ≤ g19 from by rw [hg_]; exact HB1.out.size); have N1419 := As_.mk (show g14 ≠ g19 from by rw [hg_]; exact Nat.ne_of_lt (blk_lt BK141.out)); have N1619 := As_.mk (show g16 ≠ g19 from by rw [hg_]; exact Nat.ne_of_lt (blk_lt BK161.out)); clear hbox hb hg_) | ((with_reducible refine gate_store (t := 35) (p := 19) rfl ?_); obtain ⟨h7a, h7b⟩ := box35 BK19.out (unwS x); have H7A := As_.mk h7a; have H7B := As_.mk h7b; clear h7a h7b; refine store_event (t := 35) (p := 19) (v := .tmp 161) (w1 := w2_.setCells g19 0 (insC (unwS x))) ?hg ?ho ?hn ?hr ?_; (case ho => rfl); (case hg => rfl); (case hn => rfl); (case hr => exact exec_store rfl rfl rfl H7B.out); intro w3_ hw_; have BK193 := As_.mk (at_ hw_ H7A.out); have BK143 := As_.mk (far_ hw_ BK142.out N1419.out); have BK163 := As_.mk (far_ hw_ BK162.out N1619.out); have HB3 := As_.mk (bset_ hw_ HB2.out HB2.out.size G19.out); clear hw_ H7A H7B) | ((with_reducible refine gate_dst (N := 164) rfl ?_); refine val_event (N := 164) (w1 := w3_) (v := .agg (insC (unwS x)).toArray) ?hg ?hd ?hr ?_; (case hd => rfl); (case hg => rfl); (case hr => exact exec_load rfl rfl (load35 BK193.out))) | ((with_reducible refine gate_store (t := 35) (p := 165) rfl ?_); obtain ⟨h7a, h7b⟩ := box_put BK163.out s HSS.out (unwS x); have H7A := As_.mk h7a; have H7B := As_.mk h7b; clear h7a h7b; refine store_event (t := 35) (p := 165) (v := .tmp 164) (w1 := w3_.setCells g16 (s * 6) (insC (unwS x))) ?hg ?ho ?hn ?hr ?_; (case ho => rfl); (case hg => rfl); (case hn => rfl); (case hr => exact exec_store rfl rfl rfl H7B.out); intro w4_ hw_; have BK164 := As_.mk (at_ hw_ H7A.out); have BK144 := As_.mk (far_ hw_ BK143.out N1416.out); have BK194 := As_.mk (far_ hw_ BK193.out (Ne.symm N1619.out)); have HB4 := As_.mk (bset_ hw_ HB3.out HB3.out.size G16.out); clear hw_ H7A H7B))
             refine ⟨⟨s + 1, false, put52 (upB M s) s (unwS x), by have := HSS.out; omega, by congr 1, rfl, ⟨fun h_ => by cases h_⟩, ⟨fun _ => HNG.out⟩, ⟨BK144.out⟩, ⟨BK164.out⟩, ⟨HB4.out⟩⟩, ?_⟩
             rw [hw4]
             show 4 - (((s + 1 : Nat) : Int)).toNat < 4 - ((s : Nat) : Int).toNat
             rw [Int.toNat_natCast, Int.toNat_natCast]
             have := HSS.out
             omega
            | true =>
             have HUN := As_.mk (fun W => unword_calls x HUX.out W)
             rw [hW] at HUN
             have hop := isWord_op hW
             have hf0 : (unwS x).f0 = x / 67108864 := by unfold unwS; rw [if_pos hW]
             have HWW := As_.mk hW
             have hMY := fun W => r3_May.calls 20 (unwS x).f0 (s : Int) _ W (ref_may_eq (Nat.le_refl _) _ _ (by rw [hf0]; exact hop.1) (by rw [hf0]; exact hop.2) (Int.natCast_nonneg _) (by have := HSS.out; omega))
             have HF0 := As_.mk hf0
             clear hop hf0 hW
             cases hM : mayOp (unwS x).f0 (s : Int) with
             | false =>
              rw [hM] at hMY
              have HMY := As_.mk hMY
              have HNG : As_ (good4 M = false) := ⟨by unfold good4; rw [show okUp M 4 = false from okUp_not M s (by rw [HX.out]; unfold okW; rw [HWW.out, ← HF0.out, hM]; rfl) 4 HSS.out, Bool.and_false]⟩
              clear hM hMY
              go_wp2_with (first | (go_at_call 13; refine (HUN.out _).mono ?_; rintro e w1_ ⟨rfl, hb⟩; have HB1 := As_.mk (HBs.out.trans (hb.mono HBs.out.size)); have BK141 := As_.mk (kB_ BK14.out hb); have BK161 := As_.mk (kB_ BK16.out hb); clear hb) | ((with_reducible refine gate_dst (N := 19) rfl ?_); refine box_event ?hg (N := 19) ?hd (cs := (insC z35).toArray) (t := 35) ?hr ?_; (case hd => rfl); (case hg => rfl); (case hr => first | (go_simp; done) | (go_simp; rfl)); intro g19 hg_ w2_ hbox hb; have HB2 := As_.mk (HB1.out.trans (hb.mono HB1.out.size)); have BK19 := As_.mk hbox; have BK142 := As_.mk (kB_ BK141.out hb); have BK162 := As_.mk (kB_ BK161.out hb); have G19 := As_.mk (show wk.heap.size ≤ g19 from by rw [hg_]; exact HB1.out.size); have N1419 := As_.mk (show g14 ≠ g19 from by rw [hg_]; exact Nat.ne_of_lt (blk_lt BK141.out)); have N1619 := As_.mk (show g16 ≠ g19 from by rw [hg_]; exact Nat.ne_of_lt (blk_lt BK161.out)); clear hbox hb hg_) | ((with_reducible refine gate_store (t := 35) (p := 19) rfl ?_); obtain ⟨h7a, h7b⟩ := box35 BK19.out (unwS x); have H7A := As_.mk h7a; have H7B := As_.mk h7b; clear h7a h7b; refine store_event (t := 35) (p := 19) (v := .tmp 161) (w1 := w2_.setCells g19 0 (insC (unwS x))) ?hg ?ho ?hn ?hr ?_; (case ho => rfl); (case hg => rfl); (case hn => rfl); (case hr => exact exec_store rfl rfl rfl H7B.out); intro w3_ hw_; have BK193 := As_.mk (at_ hw_ H7A.out); have BK143 := As_.mk (far_ hw_ BK142.out N1419.out); have BK163 := As_.mk (far_ hw_ BK162.out N1619.out); have HB3 := As_.mk (bset_ hw_ HB2.out HB2.out.size G19.out); clear hw_ H7A H7B) | ((with_reducible refine gate_dst (N := 164) rfl ?_); refine val_event (N := 164) (w1 := w3_) (v := .agg (insC (unwS x)).toArray) ?hg ?hd ?hr ?_; (case hd => rfl); (case hg => rfl); (case hr => exact exec_load rfl rfl (load35 BK193.out))) | ((with_reducible refine gate_store (t := 35) (p := 165) rfl ?_); obtain ⟨h7a, h7b⟩ := box_put BK163.out s HSS.out (unwS x); have H7A := As_.mk h7a; have H7B := As_.mk h7b; clear h7a h7b; refine store_event (t := 35) (p := 165) (v := .tmp 164) (w1 := w3_.setCells g16 (s * 6) (insC (unwS x))) ?hg ?ho ?hn ?hr ?_; (case ho => rfl); (case hg => rfl); (case hn => rfl); (case hr => exact exec_store rfl rfl rfl H7B.out); intro w4_ hw_; have BK164 := As_.mk (at_ hw_ H7A.out); have BK144 := As_.mk (far_ hw_ BK143.out N1416.out); have BK194 := As_.mk (far_ hw_ BK193.out (Ne.symm N1619.out)); have HB4 := As_.mk (bset_ hw_ HB3.out HB3.out.size G16.out); have y19 : w4_.cell? ⟨g19, 0, none⟩ = some (.int .i64 (unwS x).f0) := (bC_ BK194.out 0).trans rfl; clear hw_ H7A H7B) | (go_at_call 22; refine (HMY.out _).mono ?_; rintro e w5_ ⟨rfl, hb⟩; have HB5 := As_.mk (HB4.out.trans (hb.mono HB4.out.size)); have BK145 := As_.mk (kB_ BK144.out hb); have BK165 := As_.mk (kB_ BK164.out hb); clear hb))
              refine ⟨⟨s + 1, false, put52 (upB M s) s (unwS x), by have := HSS.out; omega, by congr 1, rfl, ⟨fun h_ => by cases h_⟩, ⟨fun _ => HNG.out⟩, ⟨BK145.out⟩, ⟨BK165.out⟩, ⟨HB5.out⟩⟩, ?_⟩
              rw [hw4]
              show 4 - (((s + 1 : Nat) : Int)).toNat < 4 - ((s : Nat) : Int).toNat
              rw [Int.toNat_natCast, Int.toNat_natCast]
              have := HSS.out
              omega
             | true =>
              rw [hM] at hMY
              have HMY := As_.mk hMY
              have HYS : As_ (okUp M (s + 1) = true) := ⟨by rw [okUp, HOK.out, HX.out]; unfold okW; rw [HWW.out, ← HF0.out, hM]; rfl⟩
              have HYB : As_ (put52 (upB M s) s (unwS x) = upB M (s + 1)) := ⟨by rw [upB, HX.out]⟩
              clear hM hMY
              go_wp2_with (first | (go_at_call 13; refine (HUN.out _).mono ?_; rintro e w1_ ⟨rfl, hb⟩; have HB1 := As_.mk (HBs.out.trans (hb.mono HBs.out.size)); have BK141 := As_.mk (kB_ BK14.out hb); have BK161 := As_.mk (kB_ BK16.out hb); clear hb) | ((with_reducible refine gate_dst (N := 19) rfl ?_); refine box_event ?hg (N := 19) ?hd (cs := (insC z35).toArray) (t := 35) ?hr ?_; (case hd => rfl); (case hg => rfl); (case hr => first | (go_simp; done) | (go_simp; rfl)); intro g19 hg_ w2_ hbox hb; have HB2 := As_.mk (HB1.out.trans (hb.mono HB1.out.size)); have BK19 := As_.mk hbox; have BK142 := As_.mk (kB_ BK141.out hb); have BK162 := As_.mk (kB_ BK161.out hb); have G19 := As_.mk (show wk.heap.size ≤ g19 from by rw [hg_]; exact HB1.out.size); have N1419 := As_.mk (show g14 ≠ g19 from by rw [hg_]; exact Nat.ne_of_lt (blk_lt BK141.out)); have N1619 := As_.mk (show g16 ≠ g19 from by rw [hg_]; exact Nat.ne_of_lt (blk_lt BK161.out)); clear hbox hb hg_) | ((with_reducible refine gate_store (t := 35) (p := 19) rfl ?_); obtain ⟨h7a, h7b⟩ := box35 BK19.out (unwS x); have H7A := As_.mk h7a; have H7B := As_.mk h7b; clear h7a h7b; refine store_event (t := 35) (p := 19) (v := .tmp 161) (w1 := w2_.setCells g19 0 (insC (unwS x))) ?hg ?ho ?hn ?hr ?_; (case ho => rfl); (case hg => rfl); (case hn => rfl); (case hr => exact exec_store rfl rfl rfl H7B.out); intro w3_ hw_; have BK193 := As_.mk (at_ hw_ H7A.out); have BK143 := As_.mk (far_ hw_ BK142.out N1419.out); have BK163 := As_.mk (far_ hw_ BK162.out N1619.out); have HB3 := As_.mk (bset_ hw_ HB2.out HB2.out.size G19.out); clear hw_ H7A H7B) | ((with_reducible refine gate_dst (N := 164) rfl ?_); refine val_event (N := 164) (w1 := w3_) (v := .agg (insC (unwS x)).toArray) ?hg ?hd ?hr ?_; (case hd => rfl); (case hg => rfl); (case hr => exact exec_load rfl rfl (load35 BK193.out))) | ((with_reducible refine gate_store (t := 35) (p := 165) rfl ?_); obtain ⟨h7a, h7b⟩ := box_put BK163.out s HSS.out (unwS x); have H7A := As_.mk h7a; have H7B := As_.mk h7b; clear h7a h7b; refine store_event (t := 35) (p := 165) (v := .tmp 164) (w1 := w3_.setCells g16 (s * 6) (insC (unwS x))) ?hg ?ho ?hn ?hr ?_; (case ho => rfl); (case hg => rfl); (case hn => rfl); (case hr => exact exec_store rfl rfl rfl H7B.out); intro w4_ hw_; have BK164 := As_.mk (at_ hw_ H7A.out); have BK144 := As_.mk (far_ hw_ BK143.out N1416.out); have BK194 := As_.mk (far_ hw_ BK193.out (Ne.symm N1619.out)); have HB4 := As_.mk (bset_ hw_ HB3.out HB3.out.size G16.out); have y19 : w4_.cell? ⟨g19, 0, none⟩ = some (.int .i64 (unwS x).f0) := (bC_ BK194.out 0).trans rfl; clear hw_ H7A H7B) | (go_at_call 22; refine (HMY.out _).mono ?_; rintro e w5_ ⟨rfl, hb⟩; have HB5 := As_.mk (HB4.out.trans (hb.mono HB4.out.size)); have BK145 := As_.mk (kB_ BK144.out hb); have BK165 := As_.mk (kB_ BK164.out hb); clear hb))
              refine ⟨⟨s + 1, true, put52 (upB M s) s (unwS x), by have := HSS.out; omega, by congr 1, rfl, ⟨fun _ => ⟨HM44.out, HYS.out, HYB.out⟩⟩, ⟨fun h_ => by cases h_⟩, ⟨BK145.out⟩, ⟨BK165.out⟩, ⟨HB5.out⟩⟩, ?_⟩
              rw [hw4]
              show 4 - (((s + 1 : Nat) : Int)).toNat < 4 - ((s : Nat) : Int).toNat
              rw [Int.toNat_natCast, Int.toNat_natCast]
              have := HSS.out
              omega
          obtain rfl : s = 4 := by omega
          have q9 : (((4 : Nat) : Int) < 4) = False := eq_false (by omega)
          clear hs hs4
          cases o with
          | false =>
           have hgd : good4 M = false := HF.out rfl
           have hbr : bunR2 M = z52 := by unfold bunR2; rw [if_neg (by rw [hgd]; decide)]
           have BKa0 : As_ (wr.heap[g14]? = some (.cells (bunC z52).toArray 52 (0, 0))) := ⟨by rw [← hbr]; exact BK14.out⟩
           have BKb0 := As_.mk BK16.out
           have HBx0 := As_.mk HBs.out
           rw [show bunE2 M = 8 from by unfold bunE2; rw [if_neg (by rw [hgd]; decide)]]
           clear hgd hbr BK14 BK16 HBs HT HF
           go_wp2_with (first | (go_at_call 11; refine (w4_num.calls 8 8 _ rfl).mono ?_; rintro e w' ⟨rfl, ⟨nd, rfl⟩⟩; have HBx2 := As_.mk (bN_ HBx1.out nd); have BKa2 := As_.mk (kN_ BKa1.out nd); have BKb2 := As_.mk (kN_ BKb1.out nd); generalize World.drewN wx1 nd = wx2 at HBx2 BKa2 BKb2 ⊢) | (go_at_call 11; refine (w4_num.calls 8 8 _ rfl).mono ?_; rintro e w' ⟨rfl, ⟨nd, rfl⟩⟩; have HBx1 := As_.mk (bN_ HBx0.out nd); have BKa1 := As_.mk (kN_ BKa0.out nd); have BKb1 := As_.mk (kN_ BKb0.out nd); generalize World.drewN wr nd = wx1 at HBx1 BKa1 BKb1 ⊢) | ((with_reducible refine gate_dst (N := 194) rfl ?_); refine val_event_g (N := 194) (w1 := wx2) (v := .agg (bunC z52).toArray) ?hw ?hd ?hr ?_; (case hd => rfl); (case hw => rfl); (case hr => exact exec_load rfl rfl (load52 BKa2.out))) | ((with_reducible refine gate_dst (N := 195) rfl ?_); refine val_event_g (N := 195) (w1 := wx2) (v := .agg (bunC z52).toArray) ?hw ?hd ?hr ?_; (case hd => rfl); (case hw => rfl); (case hr => first | (go_simp; done) | (go_simp; rfl))) | ((with_reducible refine gate_dst (N := 196) rfl ?_); refine val_event_g (N := 196) (w1 := wx2) (v := .bool false) ?hw ?hd ?hr ?_; (case hd => rfl); (case hw => rfl); (case hr => exact exec_bin rfl rfl rfl (guard52 _ _ _ _ _) (run_neq52 _ _))))
           refine ⟨⟨r + 1, by have := HRL.out; omega, by congr 1, ⟨HBq.out.trans (HBx2.out.mono HBq.out.size)⟩⟩, ?_⟩
           rw [hw3]
           show ps.length - (((r + 1 : Nat) : Int)).toNat < ps.length - ((r : Nat) : Int).toNat
           rw [Int.toNat_natCast, Int.toNat_natCast]
           have := HRL.out
           omega
          | true =>
           have hgd := good4_of (HT.out rfl).1 (HT.out rfl).2.1
           have hbr : bunR2 M = upB M 4 := by unfold bunR2; rw [if_pos hgd]
           have hd := (HT.out rfl).2.2
           subst hd
           have BKa0 : As_ (wr.heap[g14]? = some (.cells (bunC (upB M 4)).toArray 52 (0, 0))) := ⟨by rw [← hbr]; exact BK14.out⟩
           have BKb0 := As_.mk BK16.out
           have HBx0 := As_.mk HBs.out
           rw [show bunE2 M = 0 from by unfold bunE2; rw [if_pos hgd]]
           clear hgd hbr BK14 BK16 HBs HT HF
           go_wp2_with (first | (go_at_call 11; refine (w4_num.calls 0 0 _ rfl).mono ?_; rintro e w' ⟨rfl, ⟨nd, rfl⟩⟩; have HBx1 := As_.mk (bN_ HBx0.out nd); have BKa1 := As_.mk (kN_ BKa0.out nd); have BKb1 := As_.mk (kN_ BKb0.out nd); generalize World.drewN wr nd = wx1 at HBx1 BKa1 BKb1 ⊢) | ((with_reducible refine gate_dst (N := 181) rfl ?_); refine val_event_g (N := 181) (w1 := wx1) (v := .agg (bunC (upB M 4)).toArray) ?hw ?hd ?hr ?_; (case hd => rfl); (case hw => rfl); (case hr => exact exec_load rfl rfl (load52 BKa1.out))) | ((with_reducible refine gate_dst (N := 182) rfl ?_); refine val_event_g (N := 182) (w1 := wx1) (v := .agg (bunC (upB M 4)).toArray) ?hw ?hd ?hr ?_; (case hd => rfl); (case hw => rfl); (case hr => exact exec_load rfl rfl (load52 BKb1.out))) | ((with_reducible refine gate_dst (N := 183) rfl ?_); refine val_event_g (N := 183) (w1 := wx1) (v := .bool false) ?hw ?hd ?hr ?_; (case hd => rfl); (case hw => rfl); (case hr => exact exec_bin rfl rfl rfl (guard52 _ _ _ _ _) (run_neq52 _ _))))
           refine ⟨⟨r + 1, by have := HRL.out; omega, by congr 1, ⟨HBq.out.trans (HBx1.out.mono HBq.out.size)⟩⟩, ?_⟩
           rw [hw3]
           show ps.length - (((r + 1 : Nat) : Int)).toNat < ps.length - ((r : Nat) : Int).toNat
           rw [Int.toNat_natCast, Int.toNat_natCast]
           have := HRL.out
           omega
       obtain rfl : r = ps.length := by omega
       have q5 : ((ps.length : Int) < (ps.length : Int)) = False := eq_false (by omega)
       have q6 : (ps.length < ps.length) = False := eq_false (by omega)
       clear hrl hr
       go_wp2_with (go_at_call 27; refine (w0_Words.calls 200 (fun _ => True) (.slice Al L.length cl) L rW wo _ (HB9.out.trans (HBq.out.mono HB9.out.size)) (Kd.R_below HO4.out HBq.out) HRW.out).mono ?_; rintro e w9_ ⟨rfl, _, hb, _⟩; have HBZ := As_.mk hb; clear hb)
       refine ⟨⟨j + 1, by have := H20.out; omega, by congr 1, ⟨kB_ BK.out HBZ.out⟩, ⟨HB.out.trans (HBZ.out.mono HB.out.size)⟩⟩, ?_⟩
       rw [hw2]
       show 20 - (((j + 1 : Nat) : Int)).toNat < 20 - ((j : Nat) : Int).toNat
       rw [Int.toNat_natCast, Int.toNat_natCast]
       have := H20.out
       omega
   have q3 : ((j : Int) < 20) = False := eq_false (by omega)
   have q4 : (j < 20) = False := eq_false h20
   go_wp2_with (go_at_call 14; refine (HWK.out _).mono ?_; rintro e w3 ⟨rfl, hb⟩; have HB3 := As_.mk hb; clear hb)
   go_ret
   exact ⟨rfl, HB.out.trans (HB3.out.mono HB.out.size)⟩
  have q1 : ((j : Int) < (lB.length : Int)) = False := eq_false (by omega)
  have q2 : (j < lB.length) = False := eq_false hlt
  go_wp2_with (go_at_call 14; refine (HWK.out _).mono ?_; rintro e w3 ⟨rfl, hb⟩; have HB3 := As_.mk hb; clear hb)
  go_ret
  exact ⟨rfl, HB.out.trans (HB3.out.mono HB.out.size)⟩
end Go.Proofs.Ytfnchdlgkkdegaa.PAll
