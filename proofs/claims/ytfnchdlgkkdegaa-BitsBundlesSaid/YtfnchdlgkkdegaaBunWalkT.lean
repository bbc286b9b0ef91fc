-- the texts that this claim needs, out of this session's and its print's (wip/shrink.py)
import Derived.Test.YtfnchdlgkkdegaaBunT
set_option linter.unusedVariables false
set_option linter.unusedSimpArgs false
namespace Go.Proofs.Ytfnchdlgkkdegaa.PAll
open Go.RowKit Go.Proofs.YtfnchdlgkkdegaaW.PrintWords Go.Proofs.YtfnchdlgkkdegaaW.PrintLast Go.Proofs.YtfnchdlgkkdegaaW.PrintMore
set_option maxRecDepth 100000 in
set_option maxHeartbeats 8000000 in
theorem bundle_calls (A : Option Addr) (c : Nat) (l : List Int) (w : World) (hl4 : l.length = 4) (hr : Kd.C (Kd.int .u32) w A 4 l) (hu : ∀ j : Nat, j < 4 → UW (rd l j)) :
    Calls Try.prog 21 #[.slice A 4 c] w fun e w' => e = .returned (.tuple #[.agg (bunC (bunR l)).toArray, .int .i64 (bunE l)]) ∧ Below w.heap.size w w' := by
 have hu52 := Try.underlying52
 have hu35 := Try.underlying35
 have HR := As_.mk hr
 have HU := As_.mk hu
 clear hr hu hl4
 go_enter Try.func21, Try.ntmps21
 go_wp2_with (first | ((with_reducible refine gate_dst (N := 2) rfl ?_); refine box_event ?hg (N := 2) ?hd (cs := (bunC z52).toArray) (t := 52) ?hr ?_; (case hd => rfl); (case hg => rfl); (case hr => first | (go_simp; done) | (go_simp; rfl)); intro g2 hg2 w1 hbox hb; have BK2 := As_.mk hbox; have HB := As_.mk hb; have G2 := As_.mk (show w.heap.size ≤ g2 from by rw [hg2]; exact Nat.le_refl _); clear hbox hb hg2) | ((with_reducible refine gate_dst (N := 4) rfl ?_); refine box_event ?hg (N := 4) ?hd (cs := (bunC z52).toArray) (t := 52) ?hr ?_; (case hd => rfl); (case hg => rfl); (case hr => first | (go_simp; done) | (go_simp; rfl)); intro g4 hg4 w2 hbox hb; have BK4 := As_.mk hbox; have BK22 := As_.mk (kB_ BK2.out hb); have HB2 := As_.mk (HB.out.trans (hb.mono HB.out.size)); have G4 := As_.mk (show w.heap.size ≤ g4 from by rw [hg4]; exact HB.out.size); have NE := As_.mk (show g2 ≠ g4 from by rw [hg4]; exact Nat.ne_of_lt (blk_lt BK2.out)); clear hbox hb hg4))
 clear BK2 HB
 go_loopw [15] (fun i wr => ∃ j : Nat, j ≤ 4 ∧ i = .int .i64 j ∧ As_ (okUp l j = true) ∧ As_ (wr.heap[g2]? = some (.cells (bunC z52).toArray 52 (0, 0))) ∧ As_ (wr.heap[g4]? = some (.cells (bunC (upB l j)).toArray 52 (0, 0))) ∧ As_ (Below w.heap.size w wr)) (fun i _ => 4 - (intOf i).toNat)
 case atStart => exact ⟨0, Nat.zero_le _, rfl, ⟨rfl⟩, ⟨BK22.out⟩, ⟨BK4.out⟩, ⟨HB2.out⟩⟩
 case round =>
  clear BK22 BK4 HB2
  obtain ⟨j, hj, rfl, HO, BK2, BK4, HB⟩ := hrel
  by_cases hlt : j < 4
  ·obtain ⟨ad, e1, hx⟩ := Kd.at_int HR.out (j : Int) (Int.natCast_nonneg _) (by omega)
   subst e1
   rw [Int.toNat_natCast] at hx
   replace hx := (HB.out.cell (World.block_lt_of_cell? w _ hx)).trans hx
   have hux := HU.out j hlt
   generalize hxx : rd l (j : Int) = x at hx hux
   have HX := As_.mk hxx
   clear hxx
   have p1 : ((0 : Int) ≤ (j : Int)) = True := eq_true (Int.natCast_nonneg _)
   have q1 : ((j : Int) < 4) = True := eq_true (by omega)
   have q2 : (j < 4) = True := eq_true hlt
   have HLT := As_.mk hlt
   have hw2 : wrap64 ((j : Int) + 1) = ((j + 1 : Nat) : Int) := by unfold wrap64; omega
   clear hlt hj
   have HI := As_.mk (fun W => ins_calls x hux W)
   cases hW : isWord x with
   | false =>
    rw [hW, if_neg (by decide)] at HI
    have HN := As_.mk (okUp_not l j (by rw [HX.out]; unfold okW; rw [hW]; rfl) 4 HLT.out)
    go_wp2_with (first | (go_at_call 12; refine (HI.out _).mono ?_; rintro e w3 ⟨rfl, hb⟩; have BK23 := As_.mk (kB_ BK2.out hb); have BK43 := As_.mk (kB_ BK4.out hb); have HB3 := As_.mk (HB.out.trans (hb.mono HB.out.size)); clear hb) | ((with_reducible refine gate_dst (N := 7) rfl ?_); refine box_event ?hg (N := 7) ?hd (cs := (insC z35).toArray) (t := 35) ?hr ?_; (case hd => rfl); (case hg => rfl); (case hr => first | (go_simp; done) | (go_simp; rfl)); intro g7 hg7 w4 hbox hb; have BK24 := As_.mk (kB_ BK23.out hb); have BK44 := As_.mk (kB_ BK43.out hb); have HB4 := As_.mk (HB3.out.trans (hb.mono HB3.out.size)); have BK74 := As_.mk hbox; have G7 := As_.mk (show w.heap.size ≤ g7 from by rw [hg7]; exact HB3.out.size); have N27 := As_.mk (show g2 ≠ g7 from by rw [hg7]; exact Nat.ne_of_lt (blk_lt BK23.out)); have N47 := As_.mk (show g4 ≠ g7 from by rw [hg7]; exact Nat.ne_of_lt (blk_lt BK43.out)); clear hbox hb hg7) | ((with_reducible refine gate_store (t := 35) (p := 7) rfl ?_); obtain ⟨h7a, h7b⟩ := box35 BK74.out (unwS x); have H7A := As_.mk h7a; have H7B := As_.mk h7b; clear h7a h7b; refine store_event (t := 35) (p := 7) (v := .tmp 23) (w1 := w4.setCells g7 0 (insC (unwS x))) ?hg ?ho ?hn ?hr ?_; (case ho => rfl); (case hg => rfl); (case hn => rfl); (case hr => exact exec_store rfl rfl rfl H7B.out); intro w5 hw_; have BK25 := As_.mk (far_ hw_ BK24.out N27.out); have BK45 := As_.mk (far_ hw_ BK44.out N47.out); have BK75 := As_.mk (at_ hw_ H7A.out); have HB5 := As_.mk (bset_ hw_ HB4.out HB4.out.size G7.out); clear hw_ H7A H7B) | ((with_reducible refine gate_dst (N := 34) rfl ?_); refine val_event (N := 34) (w1 := w5) (v := .agg (bunC z52).toArray) ?hg ?hd ?hr ?_; (case hd => rfl); (case hg => rfl); (case hr => first | (go_simp; done) | (go_simp; rfl))) | ((with_reducible refine gate_store (t := 52) (p := 2) rfl ?_); obtain ⟨h7a, h7b⟩ := box52 BK25.out z52; have H7A := As_.mk h7a; have H7B := As_.mk h7b; clear h7a h7b; refine store_event (t := 52) (p := 2) (v := .tmp 34) (w1 := w5.setCells g2 0 (bunC z52)) ?hg ?ho ?hn ?hr ?_; (case ho => rfl); (case hg => rfl); (case hn => rfl); (case hr => exact exec_store rfl rfl rfl H7B.out); intro w6 hw_; have BK26 := As_.mk (at_ hw_ H7A.out); have HB6 := As_.mk (bset_ hw_ HB5.out HB5.out.size G2.out); clear hw_ H7A H7B))
    refine bodyPost_ret (results_ct rfl _ _ g2 52 (bunC z52).toArray (0, 0) _ rfl BK26.out Try.underlying52 rfl (by kernel_rfl)) rfl ?_
    exact ⟨by unfold bunR bunE; rw [if_neg (by rw [HN.out]; decide), if_neg (by rw [HN.out]; decide)]; rfl, HB6.out⟩
   | true =>
    rw [hW, if_pos rfl] at HI
    have hop := isWord_op hW
    have HM := As_.mk (fun W => isa_May.calls 10 (x / 67108864) (j : Int) _ W (may_op_eq (Nat.le_refl _) _ _ hop.1 hop.2 (Int.natCast_nonneg _) (by have := HLT.out; omega)))
    have hf0 : (unwS x).f0 = x / 67108864 := by unfold unwS; rw [if_pos hW]
    have HF0 := As_.mk hf0
    have HW := As_.mk hW
    clear hop hf0 hW
    cases hM : mayOp (x / 67108864) (j : Int) with
    | false =>
     rw [hM] at HM
     have HN := As_.mk (okUp_not l j (by rw [HX.out]; unfold okW; rw [hM, Bool.and_false]) 4 HLT.out)
     clear hM
     go_wp2_with (first | (go_at_call 12; refine (HI.out _).mono ?_; rintro e w3 ⟨rfl, hb⟩; have BK23 := As_.mk (kB_ BK2.out hb); have BK43 := As_.mk (kB_ BK4.out hb); have HB3 := As_.mk (HB.out.trans (hb.mono HB.out.size)); clear hb) | ((with_reducible refine gate_dst (N := 7) rfl ?_); refine box_event ?hg (N := 7) ?hd (cs := (insC z35).toArray) (t := 35) ?hr ?_; (case hd => rfl); (case hg => rfl); (case hr => first | (go_simp; done) | (go_simp; rfl)); intro g7 hg7 w4 hbox hb; have BK24 := As_.mk (kB_ BK23.out hb); have BK44 := As_.mk (kB_ BK43.out hb); have HB4 := As_.mk (HB3.out.trans (hb.mono HB3.out.size)); have BK74 := As_.mk hbox; have G7 := As_.mk (show w.heap.size ≤ g7 from by rw [hg7]; exact HB3.out.size); have N27 := As_.mk (show g2 ≠ g7 from by rw [hg7]; exact Nat.ne_of_lt (blk_lt BK23.out)); have N47 := As_.mk (show g4 ≠ g7 from by rw [hg7]; exact Nat.ne_of_lt (blk_lt BK43.out)); clear hbox hb hg7) | ((with_reducible refine gate_store (t := 35) (p := 7) rfl ?_); obtain ⟨h7a, h7b⟩ := box35 BK74.out (unwS x); have H7A := As_.mk h7a; have H7B := As_.mk h7b; clear h7a h7b; refine store_event (t := 35) (p := 7) (v := .tmp 23) (w1 := w4.setCells g7 0 (insC (unwS x))) ?hg ?ho ?hn ?hr ?_; (case ho => rfl); (case hg => rfl); (case hn => rfl); (case hr => exact exec_store rfl rfl rfl H7B.out); intro w5 hw_; have BK25 := As_.mk (far_ hw_ BK24.out N27.out); have BK45 := As_.mk (far_ hw_ BK44.out N47.out); have BK75 := As_.mk (at_ hw_ H7A.out); have y0 : w5.cell? ⟨g7, 0, none⟩ = some (.int .i64 (x / 67108864)) := (bC_ BK75.out 0).trans (congrArg (fun z => some (Value.int .i64 z)) HF0.out); have HB5 := As_.mk (bset_ hw_ HB4.out HB4.out.size G7.out); clear hw_ H7A H7B) | (go_at_call 45; refine (HM.out _).mono ?_; rintro e w6 ⟨rfl, ⟨nd, rfl⟩⟩; have BK26 := As_.mk (kN_ BK25.out nd); have BK46 := As_.mk (kN_ BK45.out nd); have BK76 := As_.mk (kN_ BK75.out nd); have HB6 := As_.mk (bN_ HB5.out nd); generalize World.drewN w5 nd = w7 at BK26 BK46 BK76 HB6 ⊢; clear BK25 BK45 BK75 HB5 y0) | ((with_reducible refine gate_dst (N := 34) rfl ?_); refine val_event (N := 34) (w1 := w7) (v := .agg (bunC z52).toArray) ?hg ?hd ?hr ?_; (case hd => rfl); (case hg => rfl); (case hr => first | (go_simp; done) | (go_simp; rfl))) | ((with_reducible refine gate_store (t := 52) (p := 2) rfl ?_); obtain ⟨h7a, h7b⟩ := box52 BK26.out z52; have H7A := As_.mk h7a; have H7B := As_.mk h7b; clear h7a h7b; refine store_event (t := 52) (p := 2) (v := .tmp 34) (w1 := w7.setCells g2 0 (bunC z52)) ?hg ?ho ?hn ?hr ?_; (case ho => rfl); (case hg => rfl); (case hn => rfl); (case hr => exact exec_store rfl rfl rfl H7B.out); intro w8 hw_; have BK28 := As_.mk (at_ hw_ H7A.out); have HB8 := As_.mk (bset_ hw_ HB6.out HB6.out.size G2.out); clear hw_ H7A H7B))
     refine bodyPost_ret (results_ct rfl _ _ g2 52 (bunC z52).toArray (0, 0) _ rfl BK28.out Try.underlying52 rfl (by kernel_rfl)) rfl ?_
     exact ⟨by unfold bunR bunE; rw [if_neg (by rw [HN.out]; decide), if_neg (by rw [HN.out]; decide)]; rfl, HB8.out⟩
    | true =>
     rw [hM] at HM
     have HY := As_.mk (show okUp l (j + 1) = true from by rw [okUp, HO.out, HX.out]; unfold okW; rw [HW.out, hM]; rfl)
     have HZ := As_.mk (show upB l (j + 1) = put52 (upB l j) j (unwS x) from by rw [upB, HX.out])
     clear hM
     go_wp2_with (first | (go_at_call 12; refine (HI.out _).mono ?_; rintro e w3 ⟨rfl, hb⟩; have BK23 := As_.mk (kB_ BK2.out hb); have BK43 := As_.mk (kB_ BK4.out hb); have HB3 := As_.mk (HB.out.trans (hb.mono HB.out.size)); clear hb) | ((with_reducible refine gate_dst (N := 7) rfl ?_); refine box_event ?hg (N := 7) ?hd (cs := (insC z35).toArray) (t := 35) ?hr ?_; (case hd => rfl); (case hg => rfl); (case hr => first | (go_simp; done) | (go_simp; rfl)); intro g7 hg7 w4 hbox hb; have BK24 := As_.mk (kB_ BK23.out hb); have BK44 := As_.mk (kB_ BK43.out hb); have HB4 := As_.mk (HB3.out.trans (hb.mono HB3.out.size)); have BK74 := As_.mk hbox; have G7 := As_.mk (show w.heap.size ≤ g7 from by rw [hg7]; exact HB3.out.size); have N27 := As_.mk (show g2 ≠ g7 from by rw [hg7]; exact Nat.ne_of_lt (blk_lt BK23.out)); have N47 := As_.mk (show g4 ≠ g7 from by rw [hg7]; exact Nat.ne_of_lt (blk_lt BK43.out)); clear hbox hb hg7) | ((with_reducible refine gate_store (t := 35) (p := 7) rfl ?_); obtain ⟨h7a, h7b⟩ := box35 BK74.out (unwS x); have H7A := As_.mk h7a; have H7B := As_.mk h7b; clear h7a h7b; refine store_event (t := 35) (p := 7) (v := .tmp 23) (w1 := w4.setCells g7 0 (insC (unwS x))) ?hg ?ho ?hn ?hr ?_; (case ho => rfl); (case hg => rfl); (case hn => rfl); (case hr => exact exec_store rfl rfl rfl H7B.out); intro w5 hw_; have BK25 := As_.mk (far_ hw_ BK24.out N27.out); have BK45 := As_.mk (far_ hw_ BK44.out N47.out); have BK75 := As_.mk (at_ hw_ H7A.out); have y0 : w5.cell? ⟨g7, 0, none⟩ = some (.int .i64 (x / 67108864)) := (bC_ BK75.out 0).trans (congrArg (fun z => some (Value.int .i64 z)) HF0.out); have HB5 := As_.mk (bset_ hw_ HB4.out HB4.out.size G7.out); clear hw_ H7A H7B) | (go_at_call 45; refine (HM.out _).mono ?_; rintro e w6 ⟨rfl, ⟨nd, rfl⟩⟩; have BK26 := As_.mk (kN_ BK25.out nd); have BK46 := As_.mk (kN_ BK45.out nd); have BK76 := As_.mk (kN_ BK75.out nd); have HB6 := As_.mk (bN_ HB5.out nd); generalize World.drewN w5 nd = w7 at BK26 BK46 BK76 HB6 ⊢; clear BK25 BK45 BK75 HB5 y0) | ((with_reducible refine gate_dst (N := 36) rfl ?_); refine val_event (N := 36) (w1 := w7) (v := .agg (insC (unwS x)).toArray) ?hg ?hd ?hr ?_; (case hd => rfl); (case hg => rfl); (case hr => exact exec_load rfl rfl (load35 BK76.out))) | ((with_reducible refine gate_store (t := 35) (p := 37) rfl ?_); obtain ⟨h7a, h7b⟩ := box_put BK46.out j HLT.out (unwS x); have H7A := As_.mk h7a; have H7B := As_.mk h7b; clear h7a h7b; refine store_event (t := 35) (p := 37) (v := .tmp 36) (w1 := w7.setCells g4 (j * 6) (insC (unwS x))) ?hg ?ho ?hn ?hr ?_; (case ho => rfl); (case hg => rfl); (case hn => rfl); (case hr => exact exec_store rfl rfl rfl H7B.out); intro w8 hw_; have BK28 := As_.mk (far_ hw_ BK26.out NE.out); have BK48 := As_.mk (at_ hw_ H7A.out); have HB8 := As_.mk (bset_ hw_ HB6.out HB6.out.size G4.out); clear hw_ H7A H7B))
     refine ⟨⟨j + 1, by have := HLT.out; omega, by congr 1, ⟨HY.out⟩, ⟨BK28.out⟩, ⟨by rw [HZ.out]; exact BK48.out⟩, ⟨HB8.out⟩⟩, ?_⟩
     rw [hw2]
     show 4 - (((j + 1 : Nat) : Int)).toNat < 4 - ((j : Nat) : Int).toNat
     rw [Int.toNat_natCast, Int.toNat_natCast]
     have := HLT.out
     omega
  obtain rfl : j = 4 := by omega
  have q1 : (((4 : Nat) : Int) < 4) = False := eq_false (by omega)
  clear hj hlt
  go_wp2_with (first | ((with_reducible refine gate_dst (N := 39) rfl ?_); refine val_event (N := 39) (w1 := wr) (v := .agg (bunC (upB l 4)).toArray) ?hg ?hd ?hr ?_; (case hd => rfl); (case hg => rfl); (case hr => exact exec_load rfl rfl (load52 BK4.out))) | ((with_reducible refine gate_store (t := 52) (p := 2) rfl ?_); obtain ⟨h7a, h7b⟩ := box52 BK2.out (upB l 4); have H7A := As_.mk h7a; have H7B := As_.mk h7b; clear h7a h7b; refine store_event (t := 52) (p := 2) (v := .tmp 39) (w1 := wr.setCells g2 0 (bunC (upB l 4))) ?hg ?ho ?hn ?hr ?_; (case ho => rfl); (case hg => rfl); (case hn => rfl); (case hr => exact exec_store rfl rfl rfl H7B.out); intro w5 hw_; have BK25 := As_.mk (at_ hw_ H7A.out); have HB5 := As_.mk (bset_ hw_ HB.out HB.out.size G2.out); clear hw_ H7A H7B))
  refine bodyPost_ret (results_ct rfl _ _ g2 52 (bunC (upB l 4)).toArray (0, 0) _ rfl BK25.out Try.underlying52 rfl (by kernel_rfl)) rfl ?_
  exact ⟨by unfold bunR bunE; rw [if_pos HO.out, if_pos HO.out]; rfl, HB5.out⟩
end Go.Proofs.Ytfnchdlgkkdegaa.PAll
