import Derived.Test.YtibfkkjkahpobaaGreatFt36
import Derived.Test.YtibfkkjkahpobaaGreatFt34
import Derived.Test.YtibfkkjkahpobaaGreatFt33
import Derived.Test.YtibfkkjkahpobaaGreatFt31
import Derived.Test.YtibfkkjkahpobaaGreatFt15
set_option linter.unusedVariables false
set_option linter.unusedSimpArgs false
set_option maxHeartbeats 8000000
set_option maxRecDepth 100000
section
-- the texts that this claim needs, out of this session's and its print's (wip/shrink.py)
namespace Go.Den
open Go Go.RowKit Go.Proofs Go.Proofs.YtibfkkjkahpobaaGreatW.PrintWords Go.Proofs.YtibfkkjkahpobaaGreat.PDag
theorem mayBlk_may {l : List S24} {x : S24} (hm : mayBlk l x = true) : mayL l = true ∧ 0 ≤ x.f0 ∧ x.f0 ≤ 33 := by
  unfold mayBlk at hm; simp only [Bool.and_eq_true] at hm; obtain ⟨h1, h2⟩ := hm; unfold mayL
  by_cases hz : zeroI x = true
  · rw [if_pos hz] at h2; have h0 : x.f0 = 0 := by unfold zeroI at hz; simp only [Bool.and_eq_true] at hz; exact eq_of_beq hz.1
    exact ⟨by rw [h1, h2]; rfl, by omega, by omega⟩
  · rw [if_neg hz] at h2; simp only [Bool.and_eq_true, decide_eq_true_eq] at h2; have h3 := okI_op h2.1; exact ⟨by rw [h1, decide_eq_true (by omega)]; rfl, h3.1, h3.2⟩
theorem at62 (c : List S62) (i : Nat) (h : i < c.length) : (c.map f62).getD i (K.zero kBun) = f62 (J62 c i) := by
  rw [show J62 c (i : Int) = c[i] by unfold J62; rw [Int.toNat_natCast, List.getD_eq_getElem?_getD, List.getElem?_eq_getElem h]; rfl, List.getD_eq_getElem?_getD, List.getElem?_map, List.getElem?_eq_getElem h]; rfl
theorem o11 (b : S41) (hm : mayBlk b.f1 b.f2 = true) : CallStep Tryz.prog 11 [.agg (kBlk.flat (f41 b))] [] (.one (.row 62 kBun ((bunF b.f1 b.f2).map f62))) [] := by
  obtain ⟨ls, l, x⟩ := b; obtain ⟨hml, hx⟩ := mayBlk_may hm; have hn := (mayL_parts hml).1; have ho := mayL_ok hml; clear hm; simp only at hml hx hn ho ⊢; have hL : (l.map f24).length = l.length := List.length_map ..; have hcl := cyc_len ho; have hci := fun i hi => cyc_in ho hn i hi; have hbd := endC_bd ho hn x; have h13 := o13 l hml; have h41 := o41 l hn ho x hx (cycF l).at_ hcl.1; have h42 := fun c => o42 (cycF l).at_ (cycF l).sl c (by rw [hcl.1, hcl.2]) (by rw [hcl.1]; omega); rw [hcl.1] at h42; refine CallStep.froz (s := .one (.own 0)) (H1 := [.row 62 kBun ((bunF l x).map f62)]) ?_ rfl; show CallStep Tryz.prog 11 [.agg (kBlk.flat ((ls, l.map f24, f24 x, ()) : kBlk.T))] [] _ _; refine CallStep.intro' (n := 95) (n0 := 0) (rs := [.tmp 2]) tb_ok Tryz.func11 (by kernel_rfl) rfl rfl rfl rfl rfl fun cx hcx => ?_; refine W.sO tb_ok ?_; refine W.sO tb_ok ?_; refine W.sO tb_ok ?_; refine W.seq ?_; refine W.sO tb_ok ?_; refine W.block (W.loop (fun i : Nat => ⟨[(5, .one (.int .i64 (longUp l (cycF l).at_ i))), (6, .one (.int .i64 i)), (1, .one (.ptr 0 0)), (3, .one (.row 3 kI (cycF l).at_)), (4, .one (.row 3 kI (cycF l).sl))], [.box 41 (kBlk.flat ((ls, l.map f24, f24 x, ()) : kBlk.T))], 95⟩) (fun i => l.length - i) (fun i => i ≤ l.length) 0 (Nat.zero_le _) (Le.to [0] hcx rfl ⟨rfl, rfl, rfl, rfl, rfl, rfl, rfl⟩) fun i hi => ?_); refine W.seq ?_; refine W.sO tb_ok ?_; refine W.if_ _ rfl (fun e => W.skip ?_) (fun e => W.exit ?_)
  · have ei : i < l.length := by have := of_decide_eq_true e; omega
    have hy := at24 l i ei; have h40 := o40 ((l.map f24).getD i (K.zero kIns)).1 (by rw [hy]; exact okI_op (okA_L ho i ei)); rw [show lateOp ((l.map f24).getD i (K.zero kIns)).1 = lateOp (J24 l i).f0 by rw [hy]; rfl] at h40; have hea : i < (cycF l).at_.length := by rw [hcl.1]; exact ei
    refine W.seq (W.block ?_); refine W.bO [14, 1] tb_ok ?_; refine W.rO tb_ok ?_; refine ⟨i + 1, ei, Le.to [0] hcx rfl ⟨?_, ?_, rfl, rfl, rfl, rfl, rfl⟩, by omega⟩
    · rw [longUp, ← hmx, ← Go.Proofs.YtibfkkjkahpobaaGreatW.PrintLast.i64_w]; rfl
    · show S.ren _ (S.one (.int .i64 (IntKind.i64.wrap (↑i + 1)))) = _; rw [IntWalk.i64_in _ (by omega)]; rfl
  have hi2 : i = l.length := by have := of_decide_eq_false e; omega
  subst hi2; refine W.sO tb_ok ?_; refine W.seq ?_; refine W.sO tb_ok ?_; refine W.ifJ ⟨[(5, .one (.int .i64 (endC l x).2)), (7, .one (.int .i64 (endC l x).1)), (1, .one (.ptr 0 0)), (3, .one (.row 3 kI (cycF l).at_)), (4, .one (.row 3 kI (cycF l).sl))], [.box 41 (kBlk.flat ((ls, l.map f24, f24 x, ()) : kBlk.T))], 95⟩ _ rfl (fun e => ?_) (fun e => W.skip ?_) ?_
  case refine_2 =>
    have e0 : x.f0 = 0 := by have e : (!(x.f0 == 0)) = false := e; rw [Bool.not_eq_false'] at e; exact eq_of_beq e
    have he : endC l x = (-1, longUp l (cycF l).at_ l.length) := by unfold endC; rw [if_pos e0]
    rw [he]; exact Le.to [0] hcx rfl ⟨rfl, rfl, rfl, rfl, rfl, rfl, rfl⟩
  · have e0 : ¬ x.f0 = 0 := fun h => by have e : (!(x.f0 == 0)) = true := e; rw [h] at e; cases e
    have he : endC l x = (freeFrom (cycF l).at_ (cycF l).sl l.length 1000 (lastOf l x (cycF l).at_), if x.f0 = 33 then freeFrom (cycF l).at_ (cycF l).sl l.length 1000 (lastOf l x (cycF l).at_) + 1 else freeFrom (cycF l).at_ (cycF l).sl l.length 1000 (lastOf l x (cycF l).at_) + 1 + 2) := by unfold endC; rw [if_neg e0]
    have hlb := lastOf_bd x l (cycF l).at_ (fun i hi => (hci i hi).1); have hfb := freeFrom_ge (cycF l).at_ (cycF l).sl l.length 1000 (lastOf l x (cycF l).at_); have hff := freeFrom_free (cycF l).at_ (cycF l).sl l.length 799 (fun i hi => (hci i hi).1.2) 1000 (lastOf l x (cycF l).at_) (by omega); rw [he]; refine W.sO tb_ok ?_; generalize hT : freeFrom (cycF l).at_ (cycF l).sl l.length 1000 (lastOf l x (cycF l).at_) = t at hfb hff ⊢; refine W.seq ?_; refine W.block (W.loop (fun p : Nat × Int => ⟨[(7, .one (.int .i64 p.2)), (1, .one (.ptr 0 0)), (3, .one (.row 3 kI (cycF l).at_)), (4, .one (.row 3 kI (cycF l).sl))], [.box 41 (kBlk.flat ((ls, l.map f24, f24 x, ()) : kBlk.T))], 95⟩) (fun p => p.1) (fun p => freeFrom (cycF l).at_ (cycF l).sl l.length p.1 p.2 = t ∧ lastOf l x (cycF l).at_ ≤ p.2 ∧ p.2 ≤ t) (1000, lastOf l x (cycF l).at_) ⟨hT, Int.le_refl _, hfb.1⟩ (Le.to [0] hcx rfl ⟨rfl, rfl, rfl, rfl, rfl, rfl⟩) fun p hp => ?_); obtain ⟨f, c⟩ := p; obtain ⟨hf, hc0, hc1⟩ := hp; simp only at hf hc0 hc1; refine W.seq ?_; have q0_ := h42 c; refine W.sO tb_ok ?_; refine W.if_ _ rfl (fun e => W.skip ?_) (fun e => W.exit ?_)
    · cases f with
      | zero => rw [freeFrom] at hf; subst hf; rw [hff] at e; cases e
      | succ f =>
        rw [freeFrom, if_pos e] at hf; have hge := freeFrom_ge (cycF l).at_ (cycF l).sl l.length f (c + 1); refine W.block ?_; refine W.rO tb_ok ?_; refine ⟨(f, c + 1), ⟨hf, by show _ ≤ c + 1; omega, by show c + 1 ≤ t; omega⟩, Le.to [0] hcx rfl ⟨?_, rfl, rfl, rfl, rfl, rfl⟩, Nat.lt_succ_self f⟩; show S.ren _ (S.one (.int .i64 (IntKind.i64.wrap (c + 1)))) = _; rw [IntWalk.i64_in _ (by omega)]; rfl
    have hct : c = t := by
      cases f with
      | zero => rw [freeFrom] at hf; exact hf
      | succ f => rw [freeFrom, if_neg (by rw [e]; exact Bool.false_ne_true)] at hf; exact hf
    subst hct; refine W.sO tb_ok ?_; refine W.sO tb_ok ?_; refine W.if_ _ rfl (fun e2 => ?_) (fun e2 => W.skip ?_)
    · have e3 : ¬ x.f0 = 33 := fun h => by have e : (!(x.f0 == 33)) = true := e2; rw [h] at e; cases e
      rw [if_neg e3]; refine W.rO tb_ok ?_; refine Le.to [0] hcx rfl ⟨?_, rfl, rfl, rfl, rfl, rfl, rfl⟩; show S.ren _ (S.one (.int .i64 (IntKind.i64.wrap (IntKind.i64.wrap (c + 1) + 2)))) = _; rw [IntWalk.i64_in (c + 1) (by omega), IntWalk.i64_in _ (by omega)]; rfl
    · have e3 : x.f0 = 33 := by have e : (!(x.f0 == 33)) = false := e2; rw [Bool.not_eq_false'] at e; exact eq_of_beq e
      rw [if_pos e3]; refine Le.to [0] hcx rfl ⟨?_, rfl, rfl, rfl, rfl, rfl, rfl⟩; show S.ren _ (S.one (.int .i64 (IntKind.i64.wrap (c + 1)))) = _; rw [IntWalk.i64_in _ (by omega)]; rfl
  have hb0 : rowB 224 (endC l x).2.toNat := by show _ * _ ≤ _; omega
  have hz0 : 0 ≤ (endC l x).2 := hbd.1; refine W.sO tb_ok ?_; refine W.seq ?_; refine W.sO tb_ok ?_; refine W.block (W.loop (fun i : Nat => ⟨[(8, .one (.own 1)), (9, .one (.int .i64 i)), (7, .one (.int .i64 (endC l x).1)), (1, .one (.ptr 0 0)), (3, .one (.row 3 kI (cycF l).at_)), (4, .one (.row 3 kI (cycF l).sl))], [.box 41 (kBlk.flat ((ls, l.map f24, f24 x, ()) : kBlk.T)), .row 62 kBun ((bunUp l (cycF l).at_ (cycF l).sl (List.replicate (endC l x).2.toNat z62) i).map f62)], 95⟩) (fun i => l.length - i) (fun i => i ≤ l.length) 0 (Nat.zero_le _) (Le.to [0, 1] hcx rfl ⟨rfl, rfl, rfl, rfl, rfl, rfl, ?_, rfl⟩) fun i hi => ?_)
  · rw [bunUp, List.map_replicate]; rfl
  have hbl : (bunUp l (cycF l).at_ (cycF l).sl (List.replicate (endC l x).2.toNat z62) i).length = (endC l x).2.toNat := by rw [bunUp_len, List.length_replicate]
  have hbl2 : ((bunUp l (cycF l).at_ (cycF l).sl (List.replicate (endC l x).2.toNat z62) i).map f62).length = (endC l x).2.toNat := by rw [List.length_map, hbl]
  refine W.seq ?_; refine W.sO tb_ok ?_; refine W.if_ _ rfl (fun e => W.skip ?_) (fun e => W.exit ?_)
  · have ei : i < l.length := by have := of_decide_eq_true e; omega
    have hea : i < (cycF l).at_.length := by rw [hcl.1]; exact ei
    have hes : i < (cycF l).sl.length := by rw [hcl.2]; exact ei
    have hy := at24 l i ei; obtain ⟨⟨ha0, ha1⟩, hs0, hs1⟩ := hci i ei; have ha2 := hbd.2.2.2.2 i ei; have hnx : bunUp l (cycF l).at_ (cycF l).sl (List.replicate (endC l x).2.toNat z62) (i + 1) = _ := bunUp.eq_2 _ _ _ _ _; have haN : ∃ m : Nat, rd (cycF l).at_ (i : Int) = m ∧ m < (bunUp l (cycF l).at_ (cycF l).sl (List.replicate (endC l x).2.toNat z62) i).length := ⟨(rd (cycF l).at_ (i : Int)).toNat, by omega, by omega⟩
    obtain ⟨m, hm, hmb⟩ := haN; have hga : (cycF l).at_.getD i (K.zero kI) = (m : Int) := hm; rw [hm, Int.toNat_natCast] at hnx; have h62 := at62 _ m hmb; have hmb2 : m < ((bunUp l (cycF l).at_ (cycF l).sl (List.replicate (endC l x).2.toNat z62) i).map f62).length := by omega
    have hsl : rd (cycF l).sl (i : Int) = 0 ∨ rd (cycF l).sl (i : Int) = 1 ∨ rd (cycF l).sl (i : Int) = 2 ∨ rd (cycF l).sl (i : Int) = 3 := by omega
    refine W.seq (W.block ?_); rcases hsl with hs | hs | hs | hs
    · have hgs : (cycF l).sl.getD i (K.zero kI) = 0 := hs; refine W.regA [16, 1] tb_ok rfl rfl _ (by (repeat' first | dsimp | simp only [castRow_self, hga, hgs] | apply And.intro) <;> first | rfl | trivial | assumption | omega | (intros; and_intros <;> first | rfl | trivial | assumption | omega)) ?_; refine W.rO tb_ok ?_; refine ⟨i + 1, ei, Le.to [0, 1] hcx rfl ⟨rfl, ?_, rfl, rfl, rfl, rfl, ?_, rfl⟩, by omega⟩
      · show S.ren _ (S.one (.int .i64 (IntKind.i64.wrap (↑i + 1)))) = _; rw [IntWalk.i64_in _ (by omega)]; rfl
      · rw [hnx, hs, List.map_set, hy, h62]; rfl
    · have hgs : (cycF l).sl.getD i (K.zero kI) = 1 := hs; refine W.regA [16, 1] tb_ok rfl rfl _ (by (repeat' first | dsimp | simp only [castRow_self, hga, hgs] | apply And.intro) <;> first | rfl | trivial | assumption | omega | (intros; and_intros <;> first | rfl | trivial | assumption | omega)) ?_; refine W.rO tb_ok ?_; refine ⟨i + 1, ei, Le.to [0, 1] hcx rfl ⟨rfl, ?_, rfl, rfl, rfl, rfl, ?_, rfl⟩, by omega⟩
      · show S.ren _ (S.one (.int .i64 (IntKind.i64.wrap (↑i + 1)))) = _; rw [IntWalk.i64_in _ (by omega)]; rfl
      · rw [hnx, hs, List.map_set, hy, h62]; rfl
    · have hgs : (cycF l).sl.getD i (K.zero kI) = 2 := hs; refine W.regA [16, 1] tb_ok rfl rfl _ (by (repeat' first | dsimp | simp only [castRow_self, hga, hgs] | apply And.intro) <;> first | rfl | trivial | assumption | omega | (intros; and_intros <;> first | rfl | trivial | assumption | omega)) ?_; refine W.rO tb_ok ?_; refine ⟨i + 1, ei, Le.to [0, 1] hcx rfl ⟨rfl, ?_, rfl, rfl, rfl, rfl, ?_, rfl⟩, by omega⟩
      · show S.ren _ (S.one (.int .i64 (IntKind.i64.wrap (↑i + 1)))) = _; rw [IntWalk.i64_in _ (by omega)]; rfl
      · rw [hnx, hs, List.map_set, hy, h62]; rfl
    · have hgs : (cycF l).sl.getD i (K.zero kI) = 3 := hs; refine W.regA [16, 1] tb_ok rfl rfl _ (by (repeat' first | dsimp | simp only [castRow_self, hga, hgs] | apply And.intro) <;> first | rfl | trivial | assumption | omega | (intros; and_intros <;> first | rfl | trivial | assumption | omega)) ?_; refine W.rO tb_ok ?_; refine ⟨i + 1, ei, Le.to [0, 1] hcx rfl ⟨rfl, ?_, rfl, rfl, rfl, rfl, ?_, rfl⟩, by omega⟩
      · show S.ren _ (S.one (.int .i64 (IntKind.i64.wrap (↑i + 1)))) = _; rw [IntWalk.i64_in _ (by omega)]; rfl
      · rw [hnx, hs, List.map_set, hy, h62]; rfl
  have hi2 : i = l.length := by have := of_decide_eq_false e; omega
  subst hi2; refine W.seq ?_; refine W.sO tb_ok ?_; refine W.ifJ ⟨[(8, .one (.own 0))], [.row 62 kBun ((bunF l x).map f62)], 95⟩ _ rfl (fun e => ?_) (fun e => W.skip ?_) ?_
  · have e0 := of_decide_eq_true e; have hbF : bunF l x = (bunUp l (cycF l).at_ (cycF l).sl (List.replicate (endC l x).2.toNat z62) l.length).set (endC l x).1.toNat (put81 (J62 (bunUp l (cycF l).at_ (cycF l).sl (List.replicate (endC l x).2.toNat z62) l.length) (endC l x).1) 0 x) := by unfold bunF; rw [if_pos (by omega)]; rfl
    obtain ⟨m, hm, hmb⟩ : ∃ m : Nat, (endC l x).1 = m ∧ m < (bunUp l (cycF l).at_ (cycF l).sl (List.replicate (endC l x).2.toNat z62) l.length).length := ⟨(endC l x).1.toNat, by omega, by have := hbd.2.2.1; omega⟩
    have hmb2 : m < ((bunUp l (cycF l).at_ (cycF l).sl (List.replicate (endC l x).2.toNat z62) l.length).map f62).length := by omega
    have h62 := at62 _ m hmb; rw [hm, Int.toNat_natCast] at hbF; rw [hm]; refine W.bO [6, 1] tb_ok ?_; refine Le.to [1] hcx rfl ⟨rfl, ?_, rfl⟩; rw [hbF, List.map_set, h62]; rfl
  · have e0 := of_decide_eq_false e; have hbF : bunF l x = bunUp l (cycF l).at_ (cycF l).sl (List.replicate (endC l x).2.toNat z62) l.length := by unfold bunF; rw [if_neg (by omega)]; rfl
    rw [hbF]; exact Le.to [1] hcx rfl ⟨rfl, rfl, rfl⟩
  refine W.sO tb_ok ?_; exact W.ret ⟨trivial, [0], rfl, rfl, rfl⟩
end Go.Den
end
section
-- the texts that this claim needs, out of this session's and its print's (wip/shrink.py)
namespace Go.Den
open Go Go.RowKit Go.Proofs Go.Proofs.YtibfkkjkahpobaaGreatW.PrintWords Go.Proofs.YtibfkkjkahpobaaGreat.PDag
theorem fg24' (y : kIns.T) : f24 (g24 y) = y := rfl
theorem fg62 (xs : List kBun.T) : (xs.map g62).map f62 = xs := by
  rw [List.map_map, show (f62 ∘ g62) = id from funext fun y => rfl, List.map_id]
theorem mayBlk_z {l : List S24} (h : mayL l = true) : mayBlk l z24 = true := by
  have h1 := mayL_parts h; have h2 : allPlain l = true := by unfold allPlain; exact List.all_eq_true.2 h1.2
  have h3 : zeroI z24 = true := by kernel_rfl
  unfold mayBlk; rw [h2, if_pos h3, decide_eq_true h1.1]; rfl
theorem bunF_len {l : List S24} {x : S24} (h : mayBlk l x = true) : (bunF l x).length ≤ 1000000 := by
  have hml := (mayBlk_may h).1; have hbd := endC_bd (mayL_ok hml) (mayL_parts hml).1 x
  have hl : (bunF l x).length = (endC l x).2.toNat := by
    unfold bunF; split
    · rw [List.length_set, bunAll_len]
    · exact bunAll_len _ _
  rw [hl]; have := hbd.2.1; omega
def fitFull (b : kBlk.T) : List kBun.T := if mayL (g41 b).f1 = true then (bunF (g41 b).f1 z24).map f62 else []
theorem fits_sides (bs : List kBlk.T) (b : kBlk.T) (h1 : (g41 b).f1.length ≤ 1000000000) : FSides bs (fun b => mayL (g41 b).f1) (fun xs => wholeL (xs.map g62)) fitFull (fun b xs => (fitsA (g41 b).f1 (xs.map g62)).1) b := by
  have hr : b.2.1 = (g41 b).f1.map f24 := by
    show b.2.1 = (b.2.1.map g24).map f24; rw [List.map_map, show (f24 ∘ g24) = id from funext fg24', List.map_id]
  have hl : b.2.1.length = (g41 b).f1.length := by rw [hr, List.length_map]
  refine ⟨?_, fun hS => ?_, ?_, ?_, fun xs => ?_, fun xs hS hW => ?_, fun xs h => ?_, ?_⟩
  · have := o12 (g41 b).f1 h1; rw [← hr] at this; exact this
  · have hS : mayL (g41 b).f1 = true := hS; have := o11 ⟨[], (g41 b).f1, z24⟩ (mayBlk_z hS); show CallStep _ _ _ _ (.one (.row 62 kBun (if mayL (g41 b).f1 = true then _ else _))) _; rw [if_pos hS]; rw [show kBlk.flat ([], b.2.1, K.zero kIns, ()) = kBlk.flat (f41 ⟨[], (g41 b).f1, z24⟩) by rw [hr]; rfl]; exact this
  · unfold fitFull; split
    · rename_i hS; rw [List.length_map]; exact bunF_len (mayBlk_z hS)
    · exact Nat.zero_le _
  · exact (o22 b.2.1 (by omega)).froz (s' := .one (.row 24 kIns b.2.1)) rfl
  · have := o23 (g41 b).f1 (xs.map g62) h1; rw [← hr, fg62] at this
    rw [show (if (mayL (g41 b).f1 && wholeL (xs.map g62)) = true then (0 : Int) else 1) = (fitsA (g41 b).f1 (xs.map g62)).2 by
      unfold fitsA
      cases h1 : mayL (g41 b).f1 <;> cases h2 : wholeL (xs.map g62) <;> simp]
    exact this
  · have hS : mayL (g41 b).f1 = true := hS; have hW : wholeL (xs.map g62) = true := hW; have := o25 (g41 b).f1 (xs.map g62) hS hW; rw [← hr, fg62, fits_same] at this; show CallStep _ _ _ _ (.one (.bool (fitsA (g41 b).f1 (xs.map g62)).1)) _; unfold fitsA; rw [if_pos ⟨hS, hW⟩]; exact this
  · show (fitsA (g41 b).f1 (xs.map g62)).1 = false; unfold fitsA
    rw [if_neg fun hh => by
      have h : (mayL (g41 b).f1 && wholeL (xs.map g62)) = false := h
      rw [hh.1, hh.2] at h; cases h]
  · exact o26 b.2.1
theorem fits_den {lI : List S24} {x : S24} {lN : List Int} {lS : List ByteArray} {lU : List S122} {lB : List S41} {lC : List S62} (hb : ∀ b ∈ lB, b.f0.length ≤ 1000000000000000 ∧ b.f1.length ≤ 1000000000000000) : CallStep Tryz.prog 4 [.agg (askC lI x lN lS lU lB lC)] [] (.one (.bool true)) [] := by
  have hl : heavy15 (lI.map f24) lN lS (lU.map f122) (lB.map f41) (lC.map f62) = false → lC.length ≤ 100 ∧ lB.length ≤ 400 ∧ ∀ b ∈ lB, b.f0.length ≤ 400 ∧ b.f1.length ≤ 400 := fun h => by
    have hm : ∀ c ∈ lB.map f41, c.1.length ≤ 1000000000000000 ∧ c.2.1.length ≤ 1000000000000000 := fun c hc => by
      obtain ⟨b, hbm, rfl⟩ := List.mem_map.1 hc; exact ⟨(hb b hbm).1, by show (b.f1.map f24).length ≤ _; rw [List.length_map]; exact (hb b hbm).2⟩
    have := light15 hm h; rw [List.length_map, List.length_map] at this; refine ⟨this.1, this.2.1, fun b hbm => ?_⟩; have h2 := this.2.2 _ (List.mem_map_of_mem (f := f41) hbm); exact ⟨h2.1, by have h3 : (b.f1.map f24).length ≤ 400 := h2.2; rwa [List.length_map] at h3⟩
  have h15 : ∀ xs : List kBun.T, xs.length ≤ 1000000000 → CallStep Tryz.prog 15 [.one (.row 62 kBun xs), .one (.row 62 kBun xs)] [] (.one (.bool true)) [] := fun xs hx => by
    have := o15 (xs.map g62) (by rw [List.length_map]; exact hx); rw [fg62] at this; exact this
  have h24 : ∀ xs : List kBun.T, CallStep Tryz.prog 24 [.one (.row 62 kBun xs)] [] (.one (.bool (wholeL (xs.map g62)))) [] := fun xs => by
    have := o24 (xs.map g62); rw [fg62] at this; exact this
  have h5 := o5 (lI.map f24) x.f0 x.f1 x.f2 x.f3 x.f4 x.f5 lN lS (lU.map f122) (lB.map f41) (lC.map f62); generalize heavy15 (lI.map f24) lN lS (lU.map f122) (lB.map f41) (lC.map f62) = r at hl h5
  cases r with
  | true => exact schedFits_den (lI.map f24) x.f0 x.f1 x.f2 x.f3 x.f4 x.f5 lN lS (lU.map f122) (lB.map f41) (lC.map f62) _ rfl true [] (fun b => mayL (g41 b).f1) (fun xs => wholeL (xs.map g62)) fitFull (fun b xs => (fitsA (g41 b).f1 (xs.map g62)).1) (Nat.zero_le _) (fun h => by cases h) (fun b hbm => by cases hbm) h5 (fun h => by cases h) o14 h15 o19 o20 o21 h24
  | false =>
    obtain ⟨hC, h4, hB5⟩ := hl rfl; refine schedFits_den (lI.map f24) x.f0 x.f1 x.f2 x.f3 x.f4 x.f5 lN lS (lU.map f122) (lB.map f41) (lC.map f62) _ rfl false (blocksF (lI.map f24) (fun a => mayL [g24 a]) (f24 x) (lB.map f41)) (fun b => mayL (g41 b).f1) (fun xs => wholeL (xs.map g62)) fitFull (fun b xs => (fitsA (g41 b).f1 (xs.map g62)).1) ?_ (fun _ => by rw [List.length_map]; omega) (fun b hbm => ?_) h5 (fun _ => ?_) o14 h15 o19 o20 o21 h24
    · unfold blocksF; rw [List.length_append, List.length_take, List.length_map]; show _ + 5 ≤ _; omega
    · rcases List.mem_append.1 hbm with hbm | hbm
      · obtain ⟨c, hc, rfl⟩ := List.mem_map.1 (List.mem_of_mem_take hbm); have := hB5 c hc; have hg : g41 (f41 c) = c := br41.gf c; exact fits_sides _ _ (by rw [hg]; omega)
      · obtain ⟨e, he, rfl⟩ := List.mem_map.1 hbm; have := insUp_len (lI.map f24) (fun a => mayL [g24 a]) (lI.map f24).length; exact fits_sides _ _ (by show ((insUp (lI.map f24) (fun a => mayL [g24 a]) (lI.map f24).length).map g24).length ≤ 1000000000; rw [List.length_map]; omega)
    · exact o6 (lI.map f24) x.f0 x.f1 x.f2 x.f3 x.f4 x.f5 lN lS (lU.map f122) (lB.map f41) (lC.map f62) (fun a => mayL [g24 a]) (fun a => o12 [g24 a] (by show 1 ≤ _; omega)) (by rw [List.length_map]; omega) (fun b hbm => by
        obtain ⟨c, hc, rfl⟩ := List.mem_map.1 hbm; have := hB5 c hc
        exact ⟨by show c.f0.length ≤ _; omega, by show (c.f1.map f24).length ≤ _; rw [List.length_map]; omega⟩)
theorem schedFits_walk : S15.LawWalk 4 := by
  intro A0 c0 lI x A1 c1 lN A2 c2 lS A3 c3 lU A4 c4 lB A5 c5 lC w h0 b0 h1 b1 h2 b2 h3 b3 h4 b4 h5 b5 hin
  have key := fits_den (lI := lI) (x := x) (lN := lN) (lS := lS) (lU := lU) (lC := lC) (lB := lB) (fun b hb => by
    have hq := hin.b.2 b hb; have q1 := hq.1.1; have q2 := hq.2.1.1
    omega)
  have hU : ∀ a, a < w.heap.size → ¬ (fun _ : Nat => False) a := fun _ _ h => h; refine Calls.mono (key.calls (fun _ => False) (fun _ => undef) w _ (HR.empty _ _ _) (All2.cons ⟨_, rfl, ?_⟩ All2.nil)) ?_
  · exact All2.cons (br24.ofRow hU b0 h0) (All2.cons rfl (All2.cons rfl (All2.cons rfl (All2.cons rfl (All2.cons rfl (All2.cons rfl (All2.cons ((brInts .i64 3).ks hU ⟨A1, c1, rfl, b1, h1⟩) (All2.cons (brStrs.ks hU ⟨A2, c2, rfl, b2, h2⟩) (All2.cons (br122.ofRow hU b3 h3) (All2.cons (br41.ofRow hU b4 h4) (All2.cons (br62.ofRow hU b5 h5) All2.nil)))))))))))
  · rintro e w' ⟨v, U1, ρ1, rfl, g, hs⟩; exact ⟨by rw [show v = .bool true from hs], g.agree.below fun b _ ⟨i, hi⟩ => by simp [place] at hi⟩
end Go.Den
end
