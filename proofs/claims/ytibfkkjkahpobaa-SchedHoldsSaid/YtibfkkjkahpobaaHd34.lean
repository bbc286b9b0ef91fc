import Derived.Test.YtibfkkjkahpobaaHd33
import Derived.Test.YtibfkkjkahpobaaHd32
import Derived.Test.YtibfkkjkahpobaaHd31
set_option linter.unusedVariables false
set_option linter.unusedSimpArgs false
set_option maxHeartbeats 8000000
set_option maxRecDepth 100000
section
-- the texts that this claim needs, out of this session's and its print's (wip/shrink.py)
namespace Go.Den
open Go Go.RowKit Go.Proofs Go.Proofs.YtibfkkjkahpobaaW.PrintWords Go.Proofs.Ytibfkkjkahpobaa.PDag
def fS (p : Nat × Nat) : kS.T := ((p.1 : Int), (p.2 : Int), ())
def gO (S : List (Nat × Nat × S24)) (x : S24) : List kS.T := (occ S x).map fS
def gP (l : List S24) (S : List (Nat × Nat × S24)) (j : Nat) (x : S24) : List kS.T := ((occ S x).drop ((l.take j).count x)).map fS
def posL (l : List S24) (S : List (Nat × Nat × S24)) (n : Nat) : List kS.T := (List.range n).map fun i => fS (posOf l S i)
def found (l : List S24) (S : List (Nat × Nat × S24)) : Prop := ∀ i : Nat, i < l.length → cntB l i < (occ S (J24 l i)).length
def standsOrd : OT := (.alt 0 (.alt 1 (.alt 2 (.alt 3 (.alt 4 (.alt 5 (.alt 6 .done .none) .none) .none) .none) (.alt 3 (.alt 2 (.alt 4 (.alt 5 (.alt 6 .done .none) .none) .none) .none) .none)) (.alt 2 (.alt 1 (.alt 3 (.alt 4 (.alt 5 (.alt 6 .done .none) .none) .none) .none) (.alt 3 (.alt 1 (.alt 4 (.alt 5 (.alt 6 .done .none) .none) .none) (.alt 4 (.alt 1 (.alt 5 (.alt 6 .done .none) .none) (.alt 5 (.alt 1 (.alt 6 .done .none) .none) .none)) .none)) .none)) (.alt 3 (.alt 1 (.alt 2 (.alt 4 (.alt 5 (.alt 6 .done .none) .none) .none) .none) (.alt 2 (.alt 1 (.alt 4 (.alt 5 (.alt 6 .done .none) .none) .none) (.alt 4 (.alt 1 (.alt 5 (.alt 6 .done .none) .none) (.alt 5 (.alt 1 (.alt 6 .done .none) .none) .none)) .none)) .none)) .none))) (.alt 1 (.alt 0 (.alt 2 (.alt 3 (.alt 4 (.alt 5 (.alt 6 .done .none) .none) .none) .none) (.alt 3 (.alt 2 (.alt 4 (.alt 5 (.alt 6 .done .none) .none) .none) .none) .none)) (.alt 2 (.alt 0 (.alt 3 (.alt 4 (.alt 5 (.alt 6 .done .none) .none) .none) .none) (.alt 3 (.alt 0 (.alt 4 (.alt 5 (.alt 6 .done .none) .none) .none) (.alt 4 (.alt 0 (.alt 5 (.alt 6 .done .none) .none) (.alt 5 (.alt 0 (.alt 6 .done .none) .none) .none)) .none)) .none)) (.alt 3 (.alt 0 (.alt 2 (.alt 4 (.alt 5 (.alt 6 .done .none) .none) .none) .none) (.alt 2 (.alt 0 (.alt 4 (.alt 5 (.alt 6 .done .none) .none) .none) (.alt 4 (.alt 0 (.alt 5 (.alt 6 .done .none) .none) (.alt 5 (.alt 0 (.alt 6 .done .none) .none) .none)) .none)) .none)) .none))) (.alt 2 (.alt 0 (.alt 1 (.alt 3 (.alt 4 (.alt 5 (.alt 6 .done .none) .none) .none) .none) (.alt 3 (.alt 1 (.alt 4 (.alt 5 (.alt 6 .done .none) .none) .none) (.alt 4 (.alt 1 (.alt 5 (.alt 6 .done .none) .none) (.alt 5 (.alt 1 (.alt 6 .done .none) .none) .none)) .none)) .none)) (.alt 1 (.alt 0 (.alt 3 (.alt 4 (.alt 5 (.alt 6 .done .none) .none) .none) .none) (.alt 3 (.alt 0 (.alt 4 (.alt 5 (.alt 6 .done .none) .none) .none) (.alt 4 (.alt 0 (.alt 5 (.alt 6 .done .none) .none) (.alt 5 (.alt 0 (.alt 6 .done .none) .none) .none)) .none)) .none)) (.alt 3 (.alt 0 (.alt 1 (.alt 4 (.alt 5 (.alt 6 .done .none) .none) .none) (.alt 4 (.alt 1 (.alt 5 (.alt 6 .done .none) .none) (.alt 5 (.alt 1 (.alt 6 .done .none) .none) .none)) .none)) (.alt 1 (.alt 0 (.alt 4 (.alt 5 (.alt 6 .done .none) .none) .none) (.alt 4 (.alt 0 (.alt 5 (.alt 6 .done .none) .none) (.alt 5 (.alt 0 (.alt 6 .done .none) .none) .none)) .none)) (.alt 4 (.alt 0 (.alt 1 (.alt 5 (.alt 6 .done .none) .none) (.alt 5 (.alt 1 (.alt 6 .done .none) .none) .none)) (.alt 1 (.alt 0 (.alt 5 (.alt 6 .done .none) .none) (.alt 5 (.alt 0 (.alt 6 .done .none) .none) .none)) (.alt 5 (.alt 0 (.alt 1 (.alt 6 .done .none) .none) (.alt 1 (.alt 0 (.alt 6 .done .none) .none) .none)) .none))) .none))) .none))) (.alt 3 (.alt 0 (.alt 1 (.alt 2 (.alt 4 (.alt 5 (.alt 6 .done .none) .none) .none) .none) (.alt 2 (.alt 1 (.alt 4 (.alt 5 (.alt 6 .done .none) .none) .none) (.alt 4 (.alt 1 (.alt 5 (.alt 6 .done .none) .none) (.alt 5 (.alt 1 (.alt 6 .done .none) .none) .none)) .none)) .none)) (.alt 1 (.alt 0 (.alt 2 (.alt 4 (.alt 5 (.alt 6 .done .none) .none) .none) .none) (.alt 2 (.alt 0 (.alt 4 (.alt 5 (.alt 6 .done .none) .none) .none) (.alt 4 (.alt 0 (.alt 5 (.alt 6 .done .none) .none) (.alt 5 (.alt 0 (.alt 6 .done .none) .none) .none)) .none)) .none)) (.alt 2 (.alt 0 (.alt 1 (.alt 4 (.alt 5 (.alt 6 .done .none) .none) .none) (.alt 4 (.alt 1 (.alt 5 (.alt 6 .done .none) .none) (.alt 5 (.alt 1 (.alt 6 .done .none) .none) .none)) .none)) (.alt 1 (.alt 0 (.alt 4 (.alt 5 (.alt 6 .done .none) .none) .none) (.alt 4 (.alt 0 (.alt 5 (.alt 6 .done .none) .none) (.alt 5 (.alt 0 (.alt 6 .done .none) .none) .none)) .none)) (.alt 4 (.alt 0 (.alt 1 (.alt 5 (.alt 6 .done .none) .none) (.alt 5 (.alt 1 (.alt 6 .done .none) .none) .none)) (.alt 1 (.alt 0 (.alt 5 (.alt 6 .done .none) .none) (.alt 5 (.alt 0 (.alt 6 .done .none) .none) .none)) (.alt 5 (.alt 0 (.alt 1 (.alt 6 .done .none) .none) (.alt 1 (.alt 0 (.alt 6 .done .none) .none) .none)) .none))) .none))) .none))) .none))))
theorem rowS_len (n : Nat) (b : S81) (k : Nat) : (rowS n b k).length ≤ k := by
  unfold rowS; exact Nat.le_trans (List.length_filterMap_le _ _) (by simp)
theorem slTo_len (c : List S81) : ∀ n, (slTo c n).length ≤ 4 * n
  | 0 => Nat.le_refl _
  | n + 1 => by
    rw [slTo_succ, slK, List.length_append]; have := slTo_len c n; have := rowS_len n (J81 c n) 4; omega
theorem slK_len (c : List S81) (n k : Nat) : (slK c n k).length ≤ 4 * n + k := by
  unfold slK; rw [List.length_append]; have := slTo_len c n; have := rowS_len n (J81 c n) k; omega
theorem eqI_iff (y x : S24) : (x == y) = eqI y x := by
  cases h : eqI y x with
  | true => rw [eqI_eq h]; exact beq_self_eq_true _
  | false =>
    cases h2 : x == y with
    | false => rfl
    | true => rw [← eq_of_beq h2, eqI_self] at h; cases h
theorem gO_one (S : List (Nat × Nat × S24)) (n s : Nat) (x : S24) : (fun y => if eqI y x = true then gO S x ++ [fS (n, s)] else gO S y) = gO (S ++ [(n, s, x)]) := by
  funext y; unfold gO; rw [occ_append, occ_one, List.map_append]; show _ = _ ++ List.map fS (if (x == y) = true then [(n, s)] else []); rw [eqI_iff]; split
  · rename_i h; rw [eqI_eq h]; rfl
  · simp
theorem gP_one (l : List S24) (S : List (Nat × Nat × S24)) (j : Nat) (hj : j < l.length) : (fun y => if eqI y (J24 l j) = true then (gP l S j (J24 l j)).drop 1 else gP l S j y) = gP l S (j + 1) := by
  funext y; unfold gP; rw [take_succ24 l j hj, List.count_append]; split
  · rename_i h
    rw [eqI_eq h, ← List.map_drop, List.drop_drop]; simp
  · rename_i h
    rw [List.count_singleton]; rw [show (J24 l (j : Int) == y) = false by rw [eqI_iff]; exact Bool.eq_false_iff.2 h]; simp
theorem gP_zero (l : List S24) (S : List (Nat × Nat × S24)) : gO S = gP l S 0 := by
  funext y; unfold gO gP; simp
theorem gP_len (l : List S24) (S : List (Nat × Nat × S24)) (j : Nat) : (gP l S j (J24 l j)).length = (occ S (J24 l j)).length - cntB l j := by
  unfold gP cntB; rw [List.length_map, List.length_drop]
theorem gP_head (l : List S24) (S : List (Nat × Nat × S24)) (j : Nat) (h : cntB l j < (occ S (J24 l j)).length) : (gP l S j (J24 l j)).getD 0 (K.zero kS) = fS (posOf l S j) := by
  unfold gP posOf; show _ = fS (((occ S (J24 l j))[(l.take j).count (J24 l j)]?).getD (0, 0)); have h : (l.take j).count (J24 l j) < (occ S (J24 l j)).length := h; rw [List.getD_eq_getElem?_getD, List.getElem?_map, List.getElem?_drop, Nat.add_zero, List.getElem?_eq_getElem h]; rfl
theorem gO_len (S : List (Nat × Nat × S24)) (x : S24) : (gO S x).length ≤ S.length := by unfold gO occ; rw [List.length_map]; exact List.length_filterMap_le _ _
theorem posL_succ (l : List S24) (S : List (Nat × Nat × S24)) (j : Nat) : posL l S (j + 1) = posL l S j ++ [fS (posOf l S j)] := by
  unfold posL; rw [List.range_succ, List.map_append]; rfl
theorem posL_len (l : List S24) (S : List (Nat × Nat × S24)) (j : Nat) : (posL l S j).length = j := by unfold posL; rw [List.length_map, List.length_range]
theorem o50w (l : List S24) (c : List S81) (hm : mayL l = true) (hw : wholeL c = true) (s : S) (H : List Blk) (hyes : found l (slTo c c.length) → s = .tup [(false, [.own 0]), (false, [.bool (decide (((slTo c c.length).length : Int) = (l.length : Int)))])] ∧ H = [.row 112 kS (posL l (slTo c c.length) l.length)])
    (hno : ¬ found l (slTo c c.length) → s = .tup [(false, [.own 0]), (false, [.bool false])] ∧ H = [.row 112 kS []]) : CallStep Try.prog 86 [.one (.row 24 kIns (l.map f24)), .one (.row 81 kBun (c.map f62))] [] s H := by
  have hn := (mayL_parts hm).1; have ho := mayL_ok hm; have hc : c.length ≤ 1024 := by unfold wholeL at hw; simp only [Bool.and_eq_true, decide_eq_true_eq] at hw; exact hw.1
  have hL : (l.map f24).length = l.length := List.length_map ..; have hC : (c.map f62).length = c.length := List.length_map ..; have hmx : (9223372036854775807 : Nat) = maxLen := by unfold maxLen; omega
  refine CallStep.intro' (n := 75) (n0 := 0) (rs := [.tmp 4, .tmp 5]) tb_ok Try.func86 (by kernel_rfl) rfl rfl rfl rfl rfl fun cx hcx => ?_; refine WG.toW ?_; refine WG.seqR tb_ok gh0_ok _ (by (repeat' first | dsimp | simp only [castRow_self] | apply And.intro) <;> first | rfl | trivial | assumption | omega | (intros; and_intros <;> first | rfl | trivial | assumption | omega)) ?_; refine WG.seq (WG.reg (RunG.step (StepG.makeMap rfl rfl rfl rfl (Nat.le_of_ble_eq_true rfl) fun b => ?_))); refine RunG.dens tb_ok MO.ok 1 1 rfl rfl _ (by (repeat' first | dsimp | simp only [castRow_self] | apply And.intro) <;> first | rfl | trivial | assumption | omega | (intros; and_intros <;> first | rfl | trivial | assumption | omega)) ?_; refine RunG.nil ?_; refine WG.seqR tb_ok MO.ok _ (by (repeat' first | dsimp | simp only [castRow_self] | apply And.intro) <;> first | rfl | trivial | assumption | omega | (intros; and_intros <;> first | rfl | trivial | assumption | omega)) ?_; refine WG.seq ?_; refine WG.seqR tb_ok MO.ok _ (by (repeat' first | dsimp | simp only [castRow_self] | apply And.intro) <;> first | rfl | trivial | assumption | omega | (intros; and_intros <;> first | rfl | trivial | assumption | omega)) ?_; refine WG.block (WG.loop (fun n : Nat => ⟨[(17, .one (.int .i64 n)), (7, .one (.int .i64 ((slTo c n).length : Int))), (4, .one (.own 0)), (16, .one (.int .i64 ((c.map f62).length : Int))), (15, .one (.row 81 kBun (c.map f62))), (6, .raw (.map (some b))), (0, .one (.row 24 kIns (l.map f24)))], [.row 112 kS []], 75⟩) (fun n => MO cx b (gO (slTo c n)) (slTo c n).length) (fun n => c.length - n) (fun n => n ≤ c.length) 0 (Nat.zero_le _) (LeG.to MO.ok [0] hcx rfl ⟨rfl, rfl, rfl, rfl, rfl, rfl, rfl, rfl, rfl⟩) fun n hnc => ?_); have hlen0 := slTo_len c n; refine WG.seqR tb_ok MO.ok _ (by (repeat' first | dsimp | simp only [castRow_self] | apply And.intro) <;> first | rfl | trivial | assumption | omega | (intros; and_intros <;> first | rfl | trivial | assumption | omega)) ?_; refine WG.seq ?_; refine WG.if_ _ rfl (fun e => WG.skip ?_) (fun e => WG.exit ?_)
  case refine_1 =>
    have en : n < c.length := by have := of_decide_eq_true e; omega
    have hy := atB c n en; refine WG.seq (WG.block ?_); refine WG.seqR tb_ok MO.ok _ (by (repeat' first | dsimp | simp only [castRow_self] | apply And.intro) <;> first | rfl | trivial | assumption | omega | (intros; and_intros <;> first | rfl | trivial | assumption | omega)) ?_; refine WG.seqR tb_ok MO.ok _ (by (repeat' first | dsimp | simp only [castRow_self] | apply And.intro) <;> first | rfl | trivial | assumption | omega | (intros; and_intros <;> first | rfl | trivial | assumption | omega)) ?_; refine WG.block (WG.loop (fun k : Nat => ⟨[(23, .one (.int .i64 k)), (22, .agg (kBun.flat ((c.map f62).getD n (K.zero kBun)))), (8, .one (.int .i64 n)), (17, .one (.int .i64 n)), (7, .one (.int .i64 ((slK c n k).length : Int))), (4, .one (.own 0)), (16, .one (.int .i64 ((c.map f62).length : Int))), (15, .one (.row 81 kBun (c.map f62))), (6, .raw (.map (some b))), (0, .one (.row 24 kIns (l.map f24)))], [.row 112 kS []], 75⟩) (fun k => MO cx b (gO (slK c n k)) (slK c n k).length) (fun k => 4 - k) (fun k => k ≤ 4) 0 (Nat.zero_le _) (by rw [slK_zero]; exact LeG.to MO.ok [0] hcx rfl ⟨rfl, rfl, rfl, rfl, rfl, rfl, rfl, rfl, rfl, rfl, rfl, rfl⟩) fun k hk => ?_); have hlen1 := slK_len c n k; refine WG.seqR tb_ok MO.ok _ (by (repeat' first | dsimp | simp only [castRow_self] | apply And.intro) <;> first | rfl | trivial | assumption | omega | (intros; and_intros <;> first | rfl | trivial | assumption | omega)) ?_; refine WG.seq ?_; refine WG.if_ _ rfl (fun e3 => WG.skip ?_) (fun e3 => WG.exit ?_)
    case refine_2 =>
      have hk4 : k = 4 := by have := of_decide_eq_false e3; omega
      subst hk4; refine WG.regR tb_ok MO.ok _ (by (repeat' first | dsimp | simp only [castRow_self] | apply And.intro) <;> first | rfl | trivial | assumption | omega | (intros; and_intros <;> first | rfl | trivial | assumption | omega)) ?_; rw [← slTo_succ]; refine ⟨n + 1, en, LeG.to MO.ok [0] hcx rfl ⟨?_, rfl, rfl, rfl, rfl, rfl, rfl, rfl, rfl⟩, by omega⟩; show S.ren _ (S.one (.int .i64 (IntKind.i64.wrap (↑n + 1)))) = _; rw [IntWalk.i64_in _ (by omega)]; rfl
    have ek : k < 4 := by have := of_decide_eq_true e3; omega
    have hnx := slK_succ c n k; have hxok := whole_slot hw n k en ek; generalize hx : slotB (J81 c n) k = x at hnx hxok; have hlen2 := slK_len c n (k + 1); refine WG.seq (WG.block ?_); refine WG.seqTo ⟨[(10, .one (.int .i64 k)), (11, .one (.ptr 1 0)), (23, .one (.int .i64 k)), (22, .agg (kBun.flat ((c.map f62).getD n (K.zero kBun)))), (8, .one (.int .i64 n)), (17, .one (.int .i64 n)), (7, .one (.int .i64 ((slK c n k).length : Int))), (4, .one (.own 0)), (16, .one (.int .i64 ((c.map f62).length : Int))), (15, .one (.row 81 kBun (c.map f62))), (6, .raw (.map (some b))), (0, .one (.row 24 kIns (l.map f24)))], [.row 112 kS [], .box 24 (kIns.flat (f24 x))], 75⟩ (MO cx b (gO (slK c n k)) (slK c n k).length) ?_ ?_
    · have e5 : k = 0 ∨ k = 1 ∨ k = 2 ∨ k = 3 := by omega
      rcases e5 with rfl | rfl | rfl | rfl
      · subst hx; refine WG.regR tb_ok MO.ok _ (by (repeat' first | dsimp | simp only [castRow_self] | apply And.intro) <;> first | rfl | trivial | assumption | omega | (intros; and_intros <;> first | rfl | trivial | assumption | omega)) ?_; exact LeG.to MO.ok [0, 1] hcx rfl ⟨rfl, rfl, rfl, rfl, rfl, rfl, rfl, rfl, rfl, rfl, rfl, rfl, by rw [hy]; rfl, rfl⟩
      · subst hx; refine WG.regR tb_ok MO.ok _ (by (repeat' first | dsimp | simp only [castRow_self] | apply And.intro) <;> first | rfl | trivial | assumption | omega | (intros; and_intros <;> first | rfl | trivial | assumption | omega)) ?_; exact LeG.to MO.ok [0, 1] hcx rfl ⟨rfl, rfl, rfl, rfl, rfl, rfl, rfl, rfl, rfl, rfl, rfl, rfl, by rw [hy]; rfl, rfl⟩
      · subst hx; refine WG.regR tb_ok MO.ok _ (by (repeat' first | dsimp | simp only [castRow_self] | apply And.intro) <;> first | rfl | trivial | assumption | omega | (intros; and_intros <;> first | rfl | trivial | assumption | omega)) ?_; exact LeG.to MO.ok [0, 1] hcx rfl ⟨rfl, rfl, rfl, rfl, rfl, rfl, rfl, rfl, rfl, rfl, rfl, rfl, by rw [hy]; rfl, rfl⟩
      · subst hx; refine WG.regR tb_ok MO.ok _ (by (repeat' first | dsimp | simp only [castRow_self] | apply And.intro) <;> first | rfl | trivial | assumption | omega | (intros; and_intros <;> first | rfl | trivial | assumption | omega)) ?_; exact LeG.to MO.ok [0, 1] hcx rfl ⟨rfl, rfl, rfl, rfl, rfl, rfl, rfl, rfl, rfl, rfl, rfl, rfl, by rw [hy]; rfl, rfl⟩
    refine WG.seq ?_; refine WG.regR tb_ok MO.ok _ (by (repeat' first | dsimp | simp only [castRow_self] | apply And.intro) <;> first | rfl | trivial | assumption | omega | (intros; and_intros <;> first | rfl | trivial | assumption | omega)) ?_; refine WG.if_ _ rfl (fun e6 => ?_) (fun e6 => WG.skip ?_)
    · have e7 : (x.f0 == 0) = false := by rw [← Bool.not_eq_true']; exact e6
      rw [if_neg (by rw [e7]; exact Bool.false_ne_true)] at hnx; have hb1 : rowB 16 ((gO (slK c n k) x).length + 1) := by have := gO_len (slK c n k) x; show _ * _ ≤ _; omega
      refine WG.seq (WG.reg ?_); refine RunG.dens tb_ok MO.ok 6 0 rfl rfl _ (by (repeat' first | dsimp | simp only [castRow_self] | apply And.intro) <;> first | rfl | trivial | assumption | omega | (intros; and_intros <;> first | rfl | trivial | assumption | omega)) ?_; refine RunG.step (StepG.mapEntry (x := x) rfl rfl rfl rfl (Nat.le_of_ble_eq_true rfl) rfl rfl hxok (by omega) fun st => ?_); refine RunG.dens tb_ok MI.ok 3 7 rfl rfl _ (by (repeat' first | dsimp | simp only [castRow_self] | apply And.intro) <;> first | rfl | trivial | assumption | omega | (intros; and_intros <;> first | rfl | trivial | assumption | omega)) ?_; refine RunG.step (StepG.entryStore rfl rfl rfl rfl rfl rfl rfl rfl hxok ?_); refine RunG.nil ?_; refine WG.regR tb_ok MO.ok _ (by (repeat' first | dsimp | simp only [castRow_self] | apply And.intro) <;> first | rfl | trivial | assumption | omega | (intros; and_intros <;> first | rfl | trivial | assumption | omega)) ?_; refine WG.regR tb_ok MO.ok _ (by (repeat' first | dsimp | simp only [castRow_self] | apply And.intro) <;> first | rfl | trivial | assumption | omega | (intros; and_intros <;> first | rfl | trivial | assumption | omega)) ?_; refine ⟨k + 1, ek, ?_, by omega⟩; rw [hnx, ← gO_one, List.length_append]; refine LeG.to MO.ok [0] hcx rfl ⟨?_, rfl, rfl, rfl, ?_, rfl, rfl, rfl, rfl, rfl, rfl, rfl⟩
      · show S.ren _ (S.one (.int .i64 (IntKind.i64.wrap (↑k + 1)))) = _; rw [IntWalk.i64_in _ (by omega)]; rfl
      · show S.ren _ (S.one (.int .i64 (IntKind.i64.wrap (((slK c n k).length : Int) + 1)))) = _; rw [IntWalk.i64_in _ (by omega)]; rfl
    · have e7 : (x.f0 == 0) = true := by rw [← Bool.not_eq_false']; exact e6
      rw [if_pos e7, List.append_nil] at hnx; refine WG.regR tb_ok MO.ok _ (by (repeat' first | dsimp | simp only [castRow_self] | apply And.intro) <;> first | rfl | trivial | assumption | omega | (intros; and_intros <;> first | rfl | trivial | assumption | omega)) ?_; refine ⟨k + 1, ek, ?_, by omega⟩; rw [hnx]; refine LeG.to MO.ok [0] hcx rfl ⟨?_, rfl, rfl, rfl, rfl, rfl, rfl, rfl, rfl, rfl, rfl, rfl⟩; show S.ren _ (S.one (.int .i64 (IntKind.i64.wrap (↑k + 1)))) = _; rw [IntWalk.i64_in _ (by omega)]; rfl
  have hn2 : n = c.length := by have := of_decide_eq_false e; omega
  subst hn2; clear e hnc; have hS : ∃ S, S = slTo c c.length := ⟨_, rfl⟩
  obtain ⟨S, hS⟩ := hS; rw [← hS] at hlen0 hyes hno ⊢; refine WG.le LeG.read (WG.seq ?_); rw [gP_zero l S]; refine WG.seqR tb_ok MR.ok _ (by (repeat' first | dsimp | simp only [castRow_self] | apply And.intro) <;> first | rfl | trivial | assumption | omega | (intros; and_intros <;> first | rfl | trivial | assumption | omega)) ?_; refine WG.block (WG.loop (fun j : Nat => ⟨[(46, .one (.int .i64 j)), (45, .one (.int .i64 ((l.map f24).length : Int))), (44, .one (.row 24 kIns (l.map f24))), (4, .one (.own 0)), (7, .one (.int .i64 (S.length : Int))), (6, .raw (.map (some b))), (0, .one (.row 24 kIns (l.map f24)))], [.row 112 kS (posL l S j)], 75⟩) (fun j => MR cx b (gP l S j) (S.length + j)) (fun j => l.length - j) (fun j => j ≤ l.length ∧ ∀ i : Nat, i < j → cntB l i < (occ S (J24 l i)).length) 0 ⟨Nat.zero_le _, fun i h => absurd h (Nat.not_lt_zero _)⟩ (LeG.to MR.ok [0] hcx rfl ⟨rfl, rfl, rfl, rfl, rfl, rfl, rfl, rfl, rfl⟩) fun j hj => ?_); obtain ⟨hj, hp⟩ := hj; refine WG.seqR tb_ok MR.ok _ (by (repeat' first | dsimp | simp only [castRow_self] | apply And.intro) <;> first | rfl | trivial | assumption | omega | (intros; and_intros <;> first | rfl | trivial | assumption | omega)) ?_; refine WG.seq ?_; refine WG.if_ _ rfl (fun e => WG.skip ?_) (fun e => WG.exit ?_)
  case refine_2 =>
    have hj2 : j = l.length := by have := of_decide_eq_false e; omega
    subst hj2; obtain ⟨rfl, rfl⟩ := hyes hp; refine WG.seqR tb_ok MR.ok _ (by (repeat' first | dsimp | simp only [castRow_self] | apply And.intro) <;> first | rfl | trivial | assumption | omega | (intros; and_intros <;> first | rfl | trivial | assumption | omega)) ?_; refine WG.ret ⟨trivial, [0], rfl, ?_, rfl⟩; rw [← hL]; rfl
  have ej : j < l.length := by have := of_decide_eq_true e; omega
  have hat := at24 l j ej; have hxok : okI (J24 l j) = true := by rw [rd_at l j ej]; exact ho _ (List.getElem_mem ej)
  have hgl := gP_len l S j; have hpl := posL_len l S j; have hg1 := gP_one l S j ej; have hgh := gP_head l S j; have hps := posL_succ l S j; have hb2 : rowB 16 ((posL l S j).length + 1) := by show _ * _ ≤ _; omega
  generalize hx : J24 l j = x at hat hxok hgl hg1 hgh; refine WG.seq (WG.block (WG.seqTo ⟨[(13, .one (.ptr 1 0)), (46, .one (.int .i64 j)), (45, .one (.int .i64 ((l.map f24).length : Int))), (44, .one (.row 24 kIns (l.map f24))), (4, .one (.own 0)), (7, .one (.int .i64 (S.length : Int))), (6, .raw (.map (some b))), (0, .one (.row 24 kIns (l.map f24)))], [.row 112 kS (posL l S j), .box 24 (kIns.flat (f24 x))], 75⟩ (MR cx b (gP l S j) (S.length + j)) ?_ (WG.seq (WG.seq (WG.reg ?_)))))
  · refine WG.regR tb_ok MR.ok _ (by (repeat' first | dsimp | simp only [castRow_self] | apply And.intro) <;> first | rfl | trivial | assumption | omega | (intros; and_intros <;> first | rfl | trivial | assumption | omega)) ?_; exact LeG.to MR.ok [0, 1] hcx rfl ⟨rfl, rfl, rfl, rfl, rfl, rfl, rfl, rfl, by rw [hat]; rfl, rfl⟩
  refine RunG.dens tb_ok MR.ok 2 0 rfl rfl _ (by (repeat' first | dsimp | simp only [castRow_self] | apply And.intro) <;> first | rfl | trivial | assumption | omega | (intros; and_intros <;> first | rfl | trivial | assumption | omega)) ?_; refine RunG.step (StepG.lookup (x := x) rfl rfl rfl rfl (Nat.le_of_ble_eq_true rfl) rfl rfl hxok ?_); refine RunG.dens tb_ok MR.ok 2 3 rfl rfl _ (by (repeat' first | dsimp | simp only [castRow_self] | apply And.intro) <;> first | rfl | trivial | assumption | omega | (intros; and_intros <;> first | rfl | trivial | assumption | omega)) ?_; refine RunG.nil ?_; refine WG.if_ _ rfl (fun e2 => ?_) (fun e2 => WG.skip ?_)
  · have e3 : ((gP l S j x).length : Int) = 0 := eq_of_beq e2; obtain ⟨rfl, rfl⟩ := hno fun h => by have := h j ej; rw [hx] at this; omega
    refine WG.seqR tb_ok MR.ok _ (by (repeat' first | dsimp | simp only [castRow_self] | apply And.intro) <;> first | rfl | trivial | assumption | omega | (intros; and_intros <;> first | rfl | trivial | assumption | omega)) ?_; exact WG.ret ⟨trivial, [2], rfl, rfl, rfl⟩
  have e3 : ¬ ((gP l S j x).length : Int) = 0 := fun h => absurd e2 (by rw [h]; decide); have hlt : cntB l j < (occ S x).length := by omega
  have hg2 := hgh hlt; refine WG.seq (WG.reg ?_); refine RunG.dens tb_ok MR.ok 3 0 rfl rfl _ (by (repeat' first | dsimp | simp only [castRow_self] | apply And.intro) <;> first | rfl | trivial | assumption | omega | (intros; and_intros <;> first | rfl | trivial | assumption | omega)) ?_; refine RunG.step (StepG.lookup (x := x) rfl rfl rfl rfl (Nat.le_of_ble_eq_true rfl) rfl rfl hxok ?_); refine RunG.dens tb_ok MR.ok 5 4 rfl rfl _ (by (repeat' first | dsimp | simp only [castRow_self] | apply And.intro) <;> first | rfl | trivial | assumption | omega | (intros; and_intros <;> first | rfl | trivial | assumption | omega)) ?_; refine RunG.nil ?_; refine WG.le (σ1 := ⟨[(13, .one (.ptr 1 0)), (46, .one (.int .i64 j)), (45, .one (.int .i64 ((l.map f24).length : Int))), (44, .one (.row 24 kIns (l.map f24))), (4, .one (.own 0)), (7, .one (.int .i64 (S.length : Int))), (6, .raw (.map (some b))), (0, .one (.row 24 kIns (l.map f24)))], [.row 112 kS (posL l S (j + 1)), .box 24 (kIns.flat (f24 x))], 75⟩) (LeG.to MR.ok [2, 1] hcx rfl ⟨rfl, rfl, rfl, rfl, rfl, rfl, rfl, rfl, by rw [hps, ← hg2]; rfl, rfl⟩) ?_; refine WG.ordTo standsOrd ⟨[(46, .one (.int .i64 j)), (45, .one (.int .i64 ((l.map f24).length : Int))), (44, .one (.row 24 kIns (l.map f24))), (4, .one (.own 0)), (7, .one (.int .i64 (S.length : Int))), (6, .raw (.map (some b))), (0, .one (.row 24 kIns (l.map f24)))], [.row 112 kS (posL l S (j + 1))], 75⟩ (MR cx b (gP l S (j + 1)) (S.length + j + 1)) MR.drew rfl (by kernel_rfl) ?_ ?_
  · have hys : ((gP l S j x).take (gP l S j x).length).drop 1 = (gP l S j x).drop 1 := by rw [List.take_length]
    repeat' first
      | trivial
      | (refine (show StepG _ _ _ _ _ _ _ from ?_); refine StepG.lookup (x := x) rfl rfl rfl rfl (Nat.le_of_ble_eq_true rfl) rfl rfl hxok ?_)
      | (refine (show StepG _ _ _ _ _ _ _ from ?_); refine StepG.mapUpdate (x := x) rfl rfl rfl rfl rfl rfl rfl hxok (by omega) ?_)
      | (refine (show StepG _ _ _ _ _ _ _ from ?_); refine StepG.den tb_ok MR.ok (ow := false) rfl _ (by (repeat' first | dsimp | simp only [castRow_self] | apply And.intro) <;> first | rfl | trivial | assumption | omega | (intros; and_intros <;> first | rfl | trivial | assumption | omega)) ?_)
      | exact LeG.to MR.ok [0] hcx rfl ⟨rfl, rfl, rfl, rfl, rfl, rfl, rfl, rfl, rfl⟩
      | (rw [hys, hg1]; exact LeG.to MR.ok [0] hcx rfl ⟨rfl, rfl, rfl, rfl, rfl, rfl, rfl, rfl, rfl⟩)
      | refine And.intro ?_ ?_
  · refine WG.regR tb_ok MR.ok _ (by (repeat' first | dsimp | simp only [castRow_self] | apply And.intro) <;> first | rfl | trivial | assumption | omega | (intros; and_intros <;> first | rfl | trivial | assumption | omega)) ?_; refine ⟨j + 1, ⟨ej, fun i hi => ?_⟩, LeG.to MR.ok [0] hcx rfl ⟨?_, rfl, rfl, rfl, rfl, rfl, rfl, rfl, rfl⟩, by omega⟩
    · rcases Nat.eq_or_lt_of_le (Nat.le_of_lt_succ hi) with h | h
      · rw [h, hx]; exact hlt
      · exact hp i h
    · show Den.S.ren _ (Den.S.one (C.int .i64 (IntKind.i64.wrap (↑j + 1)))) = _; rw [IntWalk.i64_in _ (by omega)]; rfl
open Classical in
theorem o50 (l : List S24) (c : List S81) (hm : mayL l = true) (hw : wholeL c = true) : ∃ R B, (found l (slTo c c.length) → R = posL l (slTo c c.length) l.length ∧ B = decide (((slTo c c.length).length : Int) = (l.length : Int))) ∧ (¬ found l (slTo c c.length) → R = [] ∧ B = false) ∧
    CallStep Try.prog 86 [.one (.row 24 kIns (l.map f24)), .one (.row 81 kBun (c.map f62))] [] (.tup [(false, [.row 112 kS R]), (false, [.bool B])]) [] := by
  by_cases hf : found l (slTo c c.length)
  · exact ⟨_, _, fun _ => ⟨rfl, rfl⟩, fun h => absurd hf h, (o50w l c hm hw _ _ (fun _ => ⟨rfl, rfl⟩) fun h => absurd hf h).froz rfl⟩
  · exact ⟨_, _, fun h => absurd h hf, fun _ => ⟨rfl, rfl⟩, (o50w l c hm hw _ _ (fun h => absurd h hf) fun _ => ⟨rfl, rfl⟩).froz rfl⟩
end Go.Den
end
section
-- the texts that this claim needs, out of this session's and its print's (wip/shrink.py)
namespace Go.Den
open Go Go.RowKit Go.Proofs Go.Proofs.YtibfkkjkahpobaaW.PrintWords Go.Proofs.Ytibfkkjkahpobaa.PDag
theorem slTo_mem2 (c : List S81) (n : Nat) : ∀ t ∈ slTo c n, t.2.1 < 4 := by
  intro t ht; unfold slTo at ht; obtain ⟨i, hi, h⟩ := List.mem_flatMap.1 ht; unfold rowS at h; obtain ⟨s, h4, hs⟩ := List.mem_filterMap.1 h; split at hs
  · cases hs
  · obtain rfl := Option.some.inj hs; exact List.mem_range.1 h4
theorem posOf_mem (l : List S24) (S : List (Nat × Nat × S24)) (i : Nat) (h : cntB l i < (occ S (J24 l i)).length) : ((posOf l S i).1, (posOf l S i).2, J24 l i) ∈ S := by
  have : posOf l S i ∈ occ S (J24 l i) := by
    unfold posOf; rw [List.getElem?_eq_getElem h]; exact List.getElem_mem h
  exact occ_mem this
theorem posL_at (l : List S24) (S : List (Nat × Nat × S24)) (i n : Nat) (h : i < n) : (posL l S n).getD i (K.zero kS) = fS (posOf l S i) := by
  unfold posL; rw [List.getD_eq_getElem?_getD, List.getElem?_map, List.getElem?_range h]; rfl
theorem fitsP_not (l : List S24) (S : List (Nat × Nat × S24)) (h : ¬ found l S) : fitsP l S = false := by
  have : ((List.range l.length).all fun i => decide (cntB l i < (occ S (J24 l i)).length)) = false := by
    rw [← Bool.not_eq_true, List.all_eq_true]; exact fun hh => h fun i hi => of_decide_eq_true (hh i (List.mem_range.2 hi))
  unfold fitsP; rw [this, Bool.false_and]
theorem fitsP_len (l : List S24) (S : List (Nat × Nat × S24)) (h : ¬ S.length = l.length) : fitsP l S = false := by
  unfold fitsP; rw [show (S.length == l.length) = false by rw [← Bool.not_eq_true, beq_iff_eq]; exact h, Bool.false_and, Bool.and_false]
theorem fitsP_yes (l : List S24) (S : List (Nat × Nat × S24)) (h : found l S) (h1 : S.length = l.length) : fitsP l S = (((List.range l.length).all fun i : Nat => mayOp (J24 l i).f0 ((posOf l S i).2 : Int)) && (edges l).all fun e => decide (e.f2 ≤ ((posOf l S e.f1.toNat).1 : Int) - ((posOf l S e.f0.toNat).1 : Int))) := by
  unfold fitsP; rw [show ((List.range l.length).all fun i => decide (cntB l i < (occ S (J24 l i)).length)) = true from List.all_eq_true.2 fun i hi => decide_eq_true (h i (List.mem_range.1 hi)), show (S.length == l.length) = true from beq_iff_eq.2 h1, Bool.true_and, Bool.true_and]
def fitsA (l : List S24) (c : List S81) : Bool × Int := if mayL l = true ∧ wholeL c = true then (fitsP l (slTo c c.length), 0) else (false, 1)
theorem o23 (l : List S24) (c : List S81) (hl : l.length ≤ 1000000000) : CallStep Try.prog 53 [.one (.row 24 kIns (l.map f24)), .one (.row 81 kBun (c.map f62))] [] (.tup [(false, [.bool (fitsA l c).1]), (false, [.int .i64 (fitsA l c).2])]) [] := by
  have hL : (l.map f24).length = l.length := List.length_map ..; have h33 := o33 l hl; have h49 := o49 c; refine CallStep.intro' (n := 69) (n0 := 0) (rs := [.tmp 4, .tmp 5]) tb_ok Try.func53 (by kernel_rfl) rfl rfl rfl rfl rfl fun cx hcx => ?_; refine W.sO tb_ok ?_; refine W.seq (W.seq ?_); refine W.rO tb_ok ?_; refine W.if_ _ rfl (fun e => ?_) (fun e => W.skip ?_)
  · have e1 : (bif !mayL l then true else !wholeL c) = true := e
    have e2 : fitsA l c = (false, 1) := by
      unfold fitsA; rw [if_neg fun h => by rw [h.1, h.2] at e1; exact Bool.false_ne_true e1]
    rw [e2]; refine W.sO tb_ok ?_; exact W.ret ⟨trivial, [], rfl, rfl, rfl⟩
  have e1 : (bif !mayL l then true else !wholeL c) = false := e; have hm : mayL l = true := by cases h : mayL l with | true => rfl | false => rw [h] at e1; cases e1
  have hw : wholeL c = true := by cases h : wholeL c with | true => rfl | false => rw [h, hm] at e1; cases e1
  have e2 : fitsA l c = (fitsP l (slTo c c.length), 0) := by unfold fitsA; rw [if_pos ⟨hm, hw⟩]
  rw [e2]; have hn := (mayL_parts hm).1; have ho := mayL_ok hm; have hc : c.length ≤ 1024 := by unfold wholeL at hw; simp only [Bool.and_eq_true, decide_eq_true_eq] at hw; exact hw.1
  obtain ⟨R, B, hy, hno, h50⟩ := o50 l c hm hw; have hm1 := slTo_mem c c.length; have hm2 := slTo_mem2 c c.length; generalize slTo c c.length = T at hy hno hm1 hm2 ⊢; refine W.sO tb_ok ?_; refine W.seq (W.seq ?_); refine W.rO tb_ok ?_; refine W.if_ _ rfl (fun e => ?_) (fun e => W.skip ?_)
  · have e3 : B = false := by rw [← Bool.not_eq_true']; exact e
    have e4 : fitsP l T = false := by
      by_cases hf : found l T
      · refine fitsP_len l T fun h => ?_; have := (hy hf).2; rw [e3, decide_eq_true (by omega)] at this; cases this
      · exact fitsP_not l T hf
    rw [e4]; refine W.sO tb_ok ?_; exact W.ret ⟨trivial, [], rfl, rfl, rfl⟩
  have e3 : B = true := by rw [← Bool.not_eq_false']; exact e
  have hf : found l T := Classical.byContradiction fun h => by have := (hno h).2; rw [e3] at this; cases this
  obtain ⟨hR, hB⟩ := hy hf; have hTl : T.length = l.length := by have := of_decide_eq_true (hB.symm.trans e3); omega
  have hfp := fitsP_yes l T hf hTl; have hRl : R.length = l.length := by rw [hR, posL_len]
  have hRa : ∀ i : Nat, i < l.length → R.getD i (K.zero kS) = fS (posOf l T i) := fun i hi => by rw [hR]; exact posL_at l T i _ hi
  have hpm := fun i h => posOf_mem l T i (hf i h); have h52 := o52 l hn ho; have hfew := edges_few l hn; have hE : ((edges l).map f100).length = (edges l).length := List.length_map ..; clear hR hB hy hno e e1 e2; refine W.seq (W.seq ?_); refine W.rO tb_ok ?_; refine W.block (W.loop (fun i : Nat => ⟨[(30, .one (.int .i64 i)), (29, .one (.int .i64 ((l.map f24).length : Int))), (28, .one (.row 24 kIns (l.map f24))), (6, .one (.row 112 kS R)), (0, .one (.row 24 kIns (l.map f24)))], [], 69⟩) (fun i => l.length - i) (fun i => i ≤ l.length ∧ ∀ j : Nat, j < i → mayOp (J24 l j).f0 ((posOf l T j).2 : Int) = true) 0 ⟨Nat.zero_le _, fun j h => absurd h (Nat.not_lt_zero _)⟩ (Le.to [] hcx rfl ⟨rfl, rfl, rfl, rfl, rfl, rfl, rfl⟩) fun i hi => ?_); obtain ⟨hi, hp⟩ := hi; refine W.sO tb_ok ?_; refine W.seq ?_; refine W.if_ _ rfl (fun e => W.skip ?_) (fun e => W.exit ?_)
  · have ei : i < l.length := by have := of_decide_eq_true e; omega
    have hat := at24 l i ei; have hxok : okI (J24 l i) = true := by rw [rd_at l i ei]; exact ho _ (List.getElem_mem ei)
    have hra := hRa i ei; have hs4 := hm2 _ (hpm i ei); have hs4 : (posOf l T i).2 < 4 := hs4; have h51 := o51 (((l.map f24).getD i (K.zero kIns)).1) ((R.getD i (K.zero kS)).2.1) (by rw [hat]; exact okI_op hxok) (by rw [hra]; show 0 ≤ ((posOf l T i).2 : Int) ∧ ((posOf l T i).2 : Int) ≤ 3; omega); refine W.seq (W.block ?_); refine W.sO tb_ok ?_; refine W.aO [9] tb_ok ?_; have hcond : mayOp (((l.map f24).getD i (K.zero kIns)).1) ((R.getD i (K.zero kS)).2.1) = mayOp (J24 l i).f0 ((posOf l T i).2 : Int) := by rw [hat, hra]; rfl
    refine W.if_ _ rfl (fun e2 => ?_) (fun e2 => W.skip ?_)
    · have e3 : mayOp (J24 l i).f0 ((posOf l T i).2 : Int) = false := by rw [← hcond, ← Bool.not_eq_true']; exact e2
      rw [show fitsP l T = false by
        rw [hfp, show ((List.range l.length).all fun i : Nat => mayOp (J24 l i).f0 ((posOf l T i).2 : Int)) = false by
          rw [← Bool.not_eq_true, List.all_eq_true]; exact fun h => by have := h i (List.mem_range.2 ei); rw [e3] at this; cases this]; rfl]
      refine W.sO tb_ok ?_; exact W.ret ⟨trivial, [], rfl, rfl, rfl⟩
    · have e3 : mayOp (J24 l i).f0 ((posOf l T i).2 : Int) = true := by rw [← hcond, ← Bool.not_eq_false']; exact e2
      refine W.rO tb_ok ?_; refine ⟨i + 1, ⟨ei, fun j hj => ?_⟩, Le.to [] hcx rfl ⟨?_, rfl, rfl, rfl, rfl, rfl, rfl⟩, by omega⟩
      · rcases Nat.eq_or_lt_of_le (Nat.le_of_lt_succ hj) with h | h
        · rw [h]; exact e3
        · exact hp j h
      · show S.ren _ (S.one (.int .i64 (IntKind.i64.wrap (↑i + 1)))) = _; rw [IntWalk.i64_in _ (by omega)]; rfl
  have hi2 : i = l.length := by have := of_decide_eq_false e; omega
  subst hi2; rw [show ((List.range l.length).all fun i : Nat => mayOp (J24 l i).f0 ((posOf l T i).2 : Int)) = true from List.all_eq_true.2 fun i hi => hp i (List.mem_range.1 hi), Bool.true_and] at hfp; refine W.seq (W.seq ?_); refine W.rO tb_ok ?_; refine W.block (W.loop (fun j : Nat => ⟨[(48, .one (.int .i64 j)), (47, .one (.int .i64 (((edges l).map f100).length : Int))), (46, .one (.row 51 kE ((edges l).map f100))), (6, .one (.row 112 kS R)), (0, .one (.row 24 kIns (l.map f24)))], [], 69⟩) (fun j => (edges l).length - j) (fun j => j ≤ (edges l).length ∧ (((edges l).drop j).all fun e => decide (e.f2 ≤ ((posOf l T e.f1.toNat).1 : Int) - ((posOf l T e.f0.toNat).1 : Int))) = fitsP l T) 0 ⟨Nat.zero_le _, hfp.symm⟩ (Le.to [] hcx rfl ⟨rfl, rfl, rfl, rfl, rfl, rfl, rfl⟩) fun j hj => ?_); obtain ⟨hj, hr⟩ := hj; refine W.sO tb_ok ?_; refine W.seq ?_; refine W.if_ _ rfl (fun e => W.skip ?_) (fun e => W.exit ?_)
  case refine_2 =>
    have hj2 : j = (edges l).length := by have := of_decide_eq_false e; omega
    subst hj2; rw [← hr, List.drop_of_length_le (Nat.le_refl _)]; refine W.sO tb_ok ?_; exact W.ret ⟨trivial, [], rfl, rfl, rfl⟩
  have ej : j < (edges l).length := by have := of_decide_eq_true e; omega
  obtain ⟨x, t, ex, et, hxl, htl⟩ := edges_in (List.getElem_mem ej); have hd := edges_dist l _ (List.getElem_mem ej); have hx1 := hm1 _ (hpm x hxl); have hx1 : (posOf l T x).1 < c.length := hx1; have ht1 := hm1 _ (hpm t htl); have ht1 : (posOf l T t).1 < c.length := ht1; have hq1 : ((edges l).map f100).getD j (K.zero kE) = ((x : Int), (t : Int), (edges l)[j].f2, ()) := by rw [at100 _ j ej, ← ex, ← et]; rfl
  have hq2 : 0 ≤ (((edges l).map f100).getD j (K.zero kE)).1 := by rw [hq1]; exact Int.natCast_nonneg x
  have hq3 : (((edges l).map f100).getD j (K.zero kE)).1 < (R.length : Int) := by rw [hq1]; show (x : Int) < _; omega
  have hq4 : Int.toNat (((edges l).map f100).getD j (K.zero kE)).1 < R.length := by rw [hq1]; show Int.toNat (x : Int) < _; omega
  have hq5 : 0 ≤ (((edges l).map f100).getD j (K.zero kE)).2.1 := by rw [hq1]; exact Int.natCast_nonneg t
  have hq6 : (((edges l).map f100).getD j (K.zero kE)).2.1 < (R.length : Int) := by rw [hq1]; show (t : Int) < _; omega
  have hq7 : Int.toNat (((edges l).map f100).getD j (K.zero kE)).2.1 < R.length := by rw [hq1]; show Int.toNat (t : Int) < _; omega
  rw [List.drop_eq_getElem_cons ej, List.all_cons] at hr
  have hcond : decide (IntKind.i64.wrap ((R.getD (Int.toNat (((edges l).map f100).getD j (K.zero kE)).2.1) (K.zero kS)).1 - (R.getD (Int.toNat (((edges l).map f100).getD j (K.zero kE)).1) (K.zero kS)).1) < (((edges l).map f100).getD j (K.zero kE)).2.2.1) = !decide ((edges l)[j].f2 ≤ ((posOf l T (edges l)[j].f1.toNat).1 : Int) - ((posOf l T (edges l)[j].f0.toNat).1 : Int)) := by
    rw [hq1, ex, et, Int.toNat_natCast, Int.toNat_natCast]; show decide (IntKind.i64.wrap ((R.getD t (K.zero kS)).1 - (R.getD x (K.zero kS)).1) < (edges l)[j].f2) = _; rw [hRa x hxl, hRa t htl]; show decide (IntKind.i64.wrap (((posOf l T t).1 : Int) - ((posOf l T x).1 : Int)) < (edges l)[j].f2) = _; rw [IntWalk.i64_in _ (by omega), ← decide_not]; exact decide_eq_decide.2 Int.not_le.symm
  refine W.seq (W.block ?_); refine W.sO tb_ok ?_; refine W.aO [16] tb_ok ?_; refine W.if_ _ rfl (fun h => ?_) (fun h => W.skip ?_)
  · have h1 := hcond.symm.trans h; rw [Bool.not_eq_true'] at h1; rw [← hr, h1]; refine W.sO tb_ok ?_; exact W.ret ⟨trivial, [], rfl, rfl, rfl⟩
  · have h1 := hcond.symm.trans h; rw [Bool.not_eq_false'] at h1; rw [h1, Bool.true_and] at hr; refine W.rO tb_ok ?_; refine ⟨j + 1, ⟨ej, hr⟩, Le.to [] hcx rfl ⟨?_, rfl, rfl, rfl, rfl, rfl, rfl⟩, by omega⟩; show S.ren _ (S.one (.int .i64 (IntKind.i64.wrap (↑j + 1)))) = _; rw [IntWalk.i64_in _ (by omega)]; rfl
end Go.Den
end
section
-- the texts that this claim needs, out of this session's and its print's (wip/shrink.py)
namespace Go.Den
open Go Go.RowKit Go.Proofs Go.Proofs.YtibfkkjkahpobaaW.PrintWords Go.Proofs.Ytibfkkjkahpobaa.PDag
theorem slotB_put (b : S81) (s : Nat) (hs : s < 4) (x : S24) (t : Nat) (ht : t < 4) : slotB (put81 b (s : Int) x) t = if t = s then x else slotB b t := by
  have hs' : s = 0 ∨ s = 1 ∨ s = 2 ∨ s = 3 := by omega
  have ht' : t = 0 ∨ t = 1 ∨ t = 2 ∨ t = 3 := by omega
  rcases hs' with rfl | rfl | rfl | rfl <;> rcases ht' with rfl | rfl | rfl | rfl <;> rfl
theorem slotB_z (t : Nat) : slotB z81 t = z24 := by
  unfold slotB; split <;> rfl
theorem rd62_rep (m r : Nat) : J81 (List.replicate m z81) (r : Int) = z81 := by
  unfold J81; rw [Int.toNat_natCast, List.getD_eq_getElem?_getD, List.getElem?_replicate]; split <;> rfl
theorem rd62_set (c : List S81) (r : Nat) (b : S81) (hr : r < c.length) (q : Nat) : J81 (c.set r b) (q : Int) = if q = r then b else J81 c (q : Int) := by
  unfold J81; rw [Int.toNat_natCast, List.getD_eq_getElem?_getD, List.getElem?_set]
  by_cases h : r = q
  · subst h; rw [if_pos rfl, if_pos hr, if_pos rfl]; rfl
  · rw [if_neg h, if_neg (fun e => h e.symm), List.getD_eq_getElem?_getD]
structure Places (l : List S24) (at_ sl : List Int) (m : Nat) : Prop where
  row : ∀ i : Nat, i < l.length → 0 ≤ rd at_ i ∧ rd at_ i < m
  slot : ∀ i : Nat, i < l.length → 0 ≤ rd sl i ∧ rd sl i ≤ 3
  apart : ∀ i j : Nat, i < l.length → j < l.length → rd at_ i = rd at_ j → rd sl i = rd sl j → i = j
section
variable {l : List S24} {at_ sl : List Int} {c : List S81}
theorem bunUp_at (hp : Places l at_ sl c.length) : ∀ k, k ≤ l.length → ∀ r s : Nat, s < 4 →
    (∀ i : Nat, i < k → rd at_ i = r → rd sl i = s → slotB (J81 (bunUp l at_ sl c k) (r : Int)) s = J24 l i) ∧
    ((∀ i : Nat, i < k → rd at_ i = r → rd sl i = s → False) → slotB (J81 (bunUp l at_ sl c k) (r : Int)) s = slotB (J81 c (r : Int)) s)
  | 0, _, r, s, hs => ⟨fun i hi => absurd hi (Nat.not_lt_zero _), fun _ => rfl⟩
  | k + 1, hk, r, s, hs => by
    obtain ⟨ih1, ih2⟩ := bunUp_at hp k (by omega) r s hs; obtain ⟨a0, a1⟩ := hp.row k (by omega); obtain ⟨s0, s1⟩ := hp.slot k (by omega); obtain ⟨a, ea⟩ : ∃ a : Nat, rd at_ k = a := ⟨(rd at_ k).toNat, by omega⟩
    obtain ⟨b, eb⟩ : ∃ b : Nat, rd sl k = b := ⟨(rd sl k).toNat, by omega⟩
    rw [bunUp, ea, eb, Int.toNat_natCast, rd62_set _ a _ (by rw [bunUp_len]; omega) r]
    by_cases hr : r = a
    · subst hr; rw [if_pos rfl, slotB_put _ b (by omega) _ s hs]
      by_cases hsb : s = b
      · subst hsb; rw [if_pos rfl]; refine ⟨fun i hi h1 h2 => ?_, fun h => (h k (by omega) ea eb).elim⟩; rw [hp.apart i k (by omega) (by omega) (by rw [h1, ea]) (by rw [h2, eb])]
      · rw [if_neg hsb]
        refine ⟨fun i hi h1 h2 => ih1 i (by
          rcases Nat.eq_or_lt_of_le (Nat.le_of_lt_succ hi) with h | h
          · subst h; rw [eb] at h2; omega
          · exact h) h1 h2, fun h => ih2 fun i hi => h i (by omega)⟩
    · rw [if_neg hr]
      refine ⟨fun i hi h1 h2 => ih1 i (by
        rcases Nat.eq_or_lt_of_le (Nat.le_of_lt_succ hi) with h | h
        · subst h; rw [ea] at h1; omega
        · exact h) h1 h2, fun h => ih2 fun i hi => h i (by omega)⟩
end
theorem cyc_places {l : List S24} (ho : okA l) (hn : l.length ≤ 200) (x : S24) : Places l (cycF l).at_ (cycF l).sl (endC l x).2.toNat := by
  have hb := endC_bd ho hn x; obtain ⟨d, hd⟩ := cycF_done ho; refine ⟨fun i hi => ⟨(cyc_in ho hn i hi).1.1, by have := hb.2.2.2.2 i hi; have := (cyc_in ho hn i hi).1.1; omega⟩, fun i hi => (cyc_in ho hn i hi).2, fun i j hi hj h1 h2 => hd.apart i j hi hj (cyc_in ho hn i hi).1.1 h1 h2⟩
section
variable {l : List S24} (ho : okA l) (hn : l.length ≤ 200) (x : S24)
include ho hn
theorem all_hit (i : Nat) (hi : i < l.length) (r s : Nat) (h1 : rd (cycF l).at_ i = r) (h2 : rd (cycF l).sl i = s) : slotB (J81 (bunAll l x) (r : Int)) s = J24 l i := by
  have hp := cyc_places ho hn x; have := hp.slot i hi; exact (bunUp_at (c := List.replicate (endC l x).2.toNat z81) (by rw [List.length_replicate]; exact hp) l.length (Nat.le_refl _) r s (by omega)).1 i hi h1 h2
theorem all_miss (r s : Nat) (hs : s < 4) (h : ∀ i : Nat, i < l.length → rd (cycF l).at_ i = r → rd (cycF l).sl i = s → False) : slotB (J81 (bunAll l x) (r : Int)) s = z24 := by
  have hp := cyc_places ho hn x; have := (bunUp_at (c := List.replicate (endC l x).2.toNat z81) (by rw [List.length_replicate]; exact hp) l.length (Nat.le_refl _) r s hs).2 h; refine this.trans ?_; rw [rd62_rep, slotB_z]
theorem all_cases (r s : Nat) (hs : s < 4) : (∃ i : Nat, i < l.length ∧ rd (cycF l).at_ i = r ∧ rd (cycF l).sl i = s ∧ slotB (J81 (bunAll l x) (r : Int)) s = J24 l i) ∨ slotB (J81 (bunAll l x) (r : Int)) s = z24 := by
  by_cases h : ∃ i : Nat, i < l.length ∧ rd (cycF l).at_ i = r ∧ rd (cycF l).sl i = s
  · obtain ⟨i, h1, h2, h3⟩ := h; exact .inl ⟨i, h1, h2, h3, all_hit ho hn x i h1 r s h2 h3⟩
  · exact .inr (all_miss ho hn x r s hs fun i h1 h2 h3 => h ⟨i, h1, h2, h3⟩)
end
def lexL (p q : Nat × Nat) : Prop := p.1 < q.1 ∨ (p.1 = q.1 ∧ p.2 < q.2)
theorem sorted_eq : ∀ (P Q : List (Nat × Nat)), P.Pairwise lexL → Q.Pairwise lexL → (∀ p, p ∈ P ↔ p ∈ Q) → P = Q
  | [], [], _, _, _ => rfl
  | [], q :: Q, _, _, h => by have := (h q).2 List.mem_cons_self; simp at this
  | p :: P, [], _, _, h => by have := (h p).1 List.mem_cons_self; simp at this
  | p :: P, q :: Q, hP, hQ, h => by
    obtain ⟨hp, hP'⟩ := List.pairwise_cons.1 hP; obtain ⟨hq, hQ'⟩ := List.pairwise_cons.1 hQ; have irr : ∀ a : Nat × Nat, ¬ lexL a a := fun a h => by unfold lexL at h; omega
    have anti : ∀ a b : Nat × Nat, lexL a b → ¬ lexL b a := fun a b h1 h2 => by unfold lexL at h1 h2; omega
    have e : p = q := by
      rcases List.mem_cons.1 ((h p).1 List.mem_cons_self) with h1 | h1
      · exact h1
      · rcases List.mem_cons.1 ((h q).2 List.mem_cons_self) with h2 | h2
        · exact h2.symm
        · exact absurd (hq p h1) (anti _ _ (hp q h2))
    subst e
    rw [sorted_eq P Q hP' hQ' fun a => ⟨fun ha => by
      rcases List.mem_cons.1 ((h a).1 (List.mem_cons_of_mem _ ha)) with h1 | h1
      · subst h1; exact absurd (hp a ha) (irr a)
      · exact h1, fun ha => by
      rcases List.mem_cons.1 ((h a).2 (List.mem_cons_of_mem _ ha)) with h1 | h1
      · subst h1; exact absurd (hq a ha) (irr a)
      · exact h1⟩]
theorem slTo_pair (c : List S81) : ∀ n, (slTo c n).Pairwise fun a b => lexL (a.1, a.2.1) (b.1, b.2.1)
  | 0 => List.Pairwise.nil
  | n + 1 => by
    rw [slTo_succ, slK, List.pairwise_append]; refine ⟨slTo_pair c n, ?_, fun a ha b hb => ?_⟩
    · unfold rowS; rw [List.pairwise_filterMap]; refine (List.pairwise_lt_range (n := 4)).imp fun {s t} hst b hb b' hb' => ?_; split at hb
      · cases hb
      · split at hb'
        · cases hb'
        · obtain rfl := Option.some.inj hb; obtain rfl := Option.some.inj hb'; exact .inr ⟨rfl, hst⟩
    · have h1 := slTo_mem c n a ha; unfold rowS at hb; obtain ⟨s, _, hs⟩ := List.mem_filterMap.1 hb; split at hs
      · cases hs
      · obtain rfl := Option.some.inj hs; exact .inl h1
theorem occ_pair {S : List (Nat × Nat × S24)} (h : S.Pairwise fun a b => lexL (a.1, a.2.1) (b.1, b.2.1)) (x : S24) : (occ S x).Pairwise lexL := by
  unfold occ; rw [List.pairwise_filterMap]; refine h.imp fun {a b} hab p hp q hq => ?_; split at hp
  · split at hq
    · obtain rfl := Option.some.inj hp; obtain rfl := Option.some.inj hq; exact hab
    · cases hq
  · cases hp
theorem slTo_iff (c : List S81) (n r s : Nat) (y : S24) : (r, s, y) ∈ slTo c n ↔ r < n ∧ s < 4 ∧ slotB (J81 c (r : Int)) s = y ∧ y.f0 ≠ 0 := by
  constructor
  · intro h; unfold slTo at h; obtain ⟨i, hi, h⟩ := List.mem_flatMap.1 h; unfold rowS at h; obtain ⟨t, ht, h⟩ := List.mem_filterMap.1 h; split at h
    · cases h
    · rename_i h0
      have h := Option.some.inj h; simp only [Prod.mk.injEq] at h; obtain ⟨rfl, rfl, rfl⟩ := h; exact ⟨List.mem_range.1 hi, List.mem_range.1 ht, rfl, by simpa using h0⟩
  · rintro ⟨h1, h2, h3, h4⟩; unfold slTo; refine List.mem_flatMap.2 ⟨r, List.mem_range.2 h1, ?_⟩; unfold rowS; refine List.mem_filterMap.2 ⟨s, List.mem_range.2 h2, ?_⟩; rw [h3, if_neg (by simpa using h4)]
theorem mem_seg (l : List S24) (i : Nat) : ∀ (d j t : Nat), j ≤ t → t < j + d → 0 ≤ dist (J24 l i) (J24 l t) → (⟨(i : Int), (t : Int), dist (J24 l i) (J24 l t)⟩ : S51) ∈ edgesSeg l i j d
  | 0, j, t, h1, h2, _ => by omega
  | d + 1, j, t, h1, h2, h => by
    unfold edgesSeg; rcases Nat.eq_or_lt_of_le h1 with rfl | h1
    · rw [if_pos h]; exact List.mem_append_left _ (List.mem_singleton.2 rfl)
    · exact List.mem_append_right _ (mem_seg l i d (j + 1) t h1 (by omega) h)
theorem edge_of (l : List S24) (i t : Nat) (h : i < t) (ht : t < l.length) (hd : 0 ≤ dist (J24 l i) (J24 l t)) : (⟨(i : Int), (t : Int), dist (J24 l i) (J24 l t)⟩ : S51) ∈ edges l :=
  from_edges l _ i (by omega) (mem_seg l i _ _ t h (by omega) hd)
theorem op_does (op : Int) (h0 : 1 ≤ op) (h1 : op ≤ 27) : effOp op = true ∨ hasD (formOf op) = true := by
  have := upto34 (p := fun op => 1 ≤ op → op ≤ 27 → (effOp op || hasD (formOf op)) = true) (by decide) op (by omega) (by omega) h0 h1
  rwa [Bool.or_eq_true] at this
theorem plain_op {x : S24} (h : plainI x = true) : 1 ≤ x.f0 ∧ x.f0 ≤ 27 := by
  have h1 := okI_op (plain_ok h); unfold plainI endsOp at h; simp only [Bool.and_eq_true, Bool.not_eq_true', Bool.and_eq_false_iff, decide_eq_false_iff_not, bne_iff_ne] at h; omega
theorem dist_self {y : S24} (h : plainI y = true) : 1 ≤ dist y y := by
  obtain ⟨h1, h2⟩ := plain_op h; have hl := late_range y.f0; unfold dist; rcases op_does y.f0 h1 h2 with he | hd
  · simp only [he, and_self, if_true]; split
    · have := mx_ge 1 (lateOp y.f0); omega
    · omega
  · simp only [hd, true_and, or_true, if_true]; have := mx_ge (if effOp y.f0 = true ∧ effOp y.f0 = true then 1 else if rdsP y y = true then 0 else -1) (lateOp y.f0); omega
section
variable {l : List S24} (hm : mayL l = true)
include hm
theorem cyc_edge (e : S51) (he : e ∈ edges l) : rd (cycF l).at_ e.f0 + e.f2 ≤ rd (cycF l).at_ e.f1 := by
  have ho := mayL_ok hm; have hn := (mayL_parts hm).1; obtain ⟨d, hd⟩ := cycF_done ho; obtain ⟨i, t, h1, h2, h3, h4⟩ := edges_in he; exact (hd.edge e he (by rw [h2]; exact (cyc_in ho hn t h4).1.1)).2
theorem cyc_alike (i j : Nat) (h : i < j) (hj : j < l.length) (he : J24 l i = J24 l j) : rd (cycF l).at_ i < rd (cycF l).at_ j := by
  have hp : plainI (J24 l j) = true := by rw [rd_at l j hj]; exact (mayL_parts hm).2 _ (List.getElem_mem hj)
  have hd := dist_self hp; have h1 := cyc_edge hm _ (edge_of l i j h hj (by rw [he]; omega)); rw [he] at h1; have h1 : rd (cycF l).at_ i + dist (J24 l j) (J24 l j) ≤ rd (cycF l).at_ j := h1; omega
def placeOf (l : List S24) (i : Nat) : Nat × Nat := ((rd (cycF l).at_ i).toNat, (rd (cycF l).sl i).toNat)
omit hm in
def likes (l : List S24) (y : S24) (n : Nat) : List (Nat × Nat) := ((List.range n).filter fun i : Nat => J24 l i == y).map (placeOf l)
omit hm in
theorem likes_succ (l : List S24) (y : S24) (n : Nat) : likes l y (n + 1) = likes l y n ++ if J24 l n == y then [placeOf l n] else [] := by
  unfold likes; rw [List.range_succ, List.filter_append, List.map_append]; congr 1
  by_cases h : (J24 l n == y) = true
  · rw [if_pos h, show [n].filter (fun i : Nat => J24 l i == y) = [n] from List.filter_cons_of_pos h]; rfl
  · rw [if_neg h, show [n].filter (fun i : Nat => J24 l i == y) = [] from List.filter_cons_of_neg h]; rfl
omit hm in
theorem likes_len (l : List S24) (y : S24) : ∀ n, n ≤ l.length → (likes l y n).length = (l.take n).count y
  | 0, _ => rfl
  | n + 1, hn => by
    rw [likes_succ, List.length_append, likes_len l y n (by omega), take_succ24 l n (by omega), List.count_append]; congr 1
    by_cases h : (J24 l n == y) = true
    · rw [if_pos h, eq_of_beq h]; simp
    · rw [if_neg h, List.count_eq_zero.2 (by rw [List.mem_singleton]; exact fun e => h (beq_iff_eq.2 e.symm))]; rfl
theorem likes_pair (y : S24) : (likes l y l.length).Pairwise lexL := by
  unfold likes; rw [List.pairwise_map]; refine List.Pairwise.imp_of_mem (R := fun a b : Nat => a < b) (fun {a b} ha hb hab => ?_) ((List.pairwise_lt_range).filter _); have h1 := List.mem_filter.1 ha; have h2 := List.mem_filter.1 hb; have hb' := List.mem_range.1 h2.1; have := cyc_alike hm a b hab hb' ((eq_of_beq h1.2).trans (eq_of_beq h2.2).symm); have h0 := (cyc_in (mayL_ok hm) (mayL_parts hm).1 a (by omega)).1.1; left; show (rd (cycF l).at_ a).toNat < (rd (cycF l).at_ b).toNat; omega
theorem occ_likes (x : S24) (y : S24) : occ (slTo (bunAll l x) (bunAll l x).length) y = likes l y l.length := by
  have ho := mayL_ok hm; have hn := (mayL_parts hm).1; have hp := cyc_places ho hn x; refine sorted_eq _ _ (occ_pair (slTo_pair _ _) y) (likes_pair hm y) fun p => ⟨fun h => ?_, fun h => ?_⟩
  · obtain ⟨h1, h2, h3, h4⟩ := (slTo_iff _ _ _ _ _).1 (occ_mem h); unfold likes; rcases all_cases ho hn x p.1 p.2 h2 with ⟨i, i1, i2, i3, i4⟩ | hz
    · refine List.mem_map.2 ⟨i, List.mem_filter.2 ⟨List.mem_range.2 i1, beq_iff_eq.2 (i4.symm.trans h3)⟩, ?_⟩; unfold placeOf; rw [i2, i3, Int.toNat_natCast, Int.toNat_natCast]
    · rw [hz] at h3; exact absurd (by rw [← h3]; rfl) h4
  · unfold likes at h; obtain ⟨i, h1, rfl⟩ := List.mem_map.1 h; obtain ⟨h1, h2⟩ := List.mem_filter.1 h1; have h1 := List.mem_range.1 h1; obtain ⟨a0, a1⟩ := hp.row i h1; obtain ⟨s0, s1⟩ := hp.slot i h1; have hpl : plainI (J24 l i) = true := by rw [rd_at l i h1]; exact (mayL_parts hm).2 _ (List.getElem_mem h1)
    have := mem_occ (S := slTo (bunAll l x) (bunAll l x).length) (t := ((rd (cycF l).at_ i).toNat, (rd (cycF l).sl i).toNat, y)) ((slTo_iff _ _ _ _ _).2 ⟨by rw [bunAll_len]; omega, by omega, ?_, ?_⟩)
    · exact this
    · rw [all_hit ho hn x i h1 _ _ (by omega) (by omega)]; exact eq_of_beq h2
    · rw [← eq_of_beq h2]; have := plain_op hpl; omega
omit hm in
theorem likes_at (l : List S24) (i : Nat) (hi : i < l.length) : (likes l (J24 l i) l.length)[cntB l i]? = some (placeOf l i) := by
  have : ∀ d, ∃ T, likes l (J24 l i) (i + 1 + d) = likes l (J24 l i) i ++ (placeOf l i :: T) := by
    intro d
    induction d with
    | zero => exact ⟨[], by rw [Nat.add_zero, likes_succ, if_pos (beq_self_eq_true _)]⟩
    | succ d ih =>
      obtain ⟨T, hT⟩ := ih; exact ⟨_, by rw [show i + 1 + (d + 1) = (i + 1 + d) + 1 from rfl, likes_succ, hT, List.append_assoc, List.cons_append]⟩
  obtain ⟨T, hT⟩ := this (l.length - (i + 1)); rw [show i + 1 + (l.length - (i + 1)) = l.length by omega] at hT; have hc : cntB l i = (likes l (J24 l i) i).length := by rw [likes_len l _ i (by omega)]; rfl
  rw [hT, hc, List.getElem?_append_right (Nat.le_refl _), Nat.sub_self]; rfl
theorem own_fits (x : S24) : fitsP l (slTo (bunAll l x) (bunAll l x).length) = true := by
  have ho := mayL_ok hm; have hn := (mayL_parts hm).1; obtain ⟨d, hd⟩ := cycF_done ho; have hocc := occ_likes hm x; have hat := fun i hi => likes_at l i hi
  have hpos : ∀ i : Nat, i < l.length → posOf l (slTo (bunAll l x) (bunAll l x).length) i = placeOf l i := fun i hi => by
    unfold posOf; rw [hocc, hat i hi]; rfl
  have hf : found l (slTo (bunAll l x) (bunAll l x).length) := fun i hi => by
    rw [hocc]; exact (List.getElem?_eq_some_iff.1 (hat i hi)).1
  have hcount : ∀ y, l.count y = ((slTo (bunAll l x) (bunAll l x).length).map fun t => t.2.2).count y := fun y => by
    rw [← occ_count, hocc, likes_len l y _ (Nat.le_refl _), List.take_length]
  have hlen := (List.perm_iff_count.2 hcount).length_eq; rw [List.length_map] at hlen; rw [fitsP_yes l _ hf hlen.symm]; simp only [Bool.and_eq_true, List.all_eq_true, List.mem_range, decide_eq_true_eq]; refine ⟨fun i hi => ?_, fun e he => ?_⟩
  · rw [hpos i hi]; have := (cyc_in ho hn i hi).2; show mayOp _ (((rd (cycF l).sl i).toNat : Nat) : Int) = true; rw [Int.toNat_of_nonneg this.1]; exact hd.may i hi (cyc_in ho hn i hi).1.1
  · obtain ⟨i, t, h1, h2, h3, h4⟩ := edges_in he; have h5 := cyc_edge hm e he; rw [h1, h2] at h5 ⊢; rw [Int.toNat_natCast, Int.toNat_natCast, hpos i h3, hpos t h4]; have a1 := (cyc_in ho hn i h3).1.1; have a2 := (cyc_in ho hn t h4).1.1; show e.f2 ≤ (((rd (cycF l).at_ t).toNat : Nat) : Int) - (((rd (cycF l).at_ i).toNat : Nat) : Int); omega
theorem own_whole (x : S24) : wholeL (bunAll l x) = true := by
  have ho := mayL_ok hm; have hn := (mayL_parts hm).1; have he := endC_ok ho hn x; unfold wholeL; rw [Bool.and_eq_true]; refine ⟨decide_eq_true ?_, whole_all fun i hi => ?_⟩
  · rw [bunAll_len]; have := he.few; split at this <;> omega
  · have h : ∀ s, s < 4 → okI (slotB (J81 (bunAll l x) (i : Int)) s) = true := fun s hs => by
      rcases all_cases ho hn x i s hs with ⟨j, j1, _, _, j4⟩ | hz
      · rw [j4, rd_at l j j1]; exact ho _ (List.getElem_mem j1)
      · rw [hz]; kernel_rfl
    have h0 := h 0 (by omega); have h1 := h 1 (by omega); have h2 := h 2 (by omega); have h3 := h 3 (by omega); unfold bunB; show (okI (slotB _ 0) && (okI (slotB _ 1) && (okI (slotB _ 2) && okI (slotB _ 3)))) = true; rw [h0, h1, h2, h3]; rfl
theorem own_fitsA (x : S24) : fitsA l (bunAll l x) = (true, 0) := by
  unfold fitsA; rw [if_pos ⟨hm, own_whole hm x⟩, own_fits hm x]
end
theorem put_self (b : S81) (x : S24) : put81 (put81 b 0 x) 0 b.f0 = b := rfl
section
variable {l : List S24} {x : S24} (hm : mayBlk l x = true)
include hm
theorem blk_may : mayL l = true := by
  unfold mayBlk at hm; simp only [Bool.and_eq_true] at hm; unfold mayL; rw [hm.1, Bool.and_true]; have h := hm.2; split at h
  · exact h
  · simp only [Bool.and_eq_true, decide_eq_true_eq] at h; exact decide_eq_true (by omega)
theorem blk_last : (x.f0 = 0 ∧ zeroI x = true) ∨ (x.f0 ≠ 0 ∧ okI x = true ∧ endsOp x.f0 = true) := by
  unfold mayBlk at hm; simp only [Bool.and_eq_true] at hm
  by_cases hz : zeroI x = true
  · left; refine ⟨?_, hz⟩; unfold zeroI at hz; simp only [Bool.and_eq_true, beq_iff_eq] at hz; exact hz.1
  · right; have := hm.2; rw [if_neg hz] at this; simp only [Bool.and_eq_true] at this; refine ⟨fun h => ?_, this.1, this.2.1⟩; have h2 := this.2.1; rw [h] at h2; exact absurd h2 (by decide)
omit hm in
theorem bun_len (l : List S24) (x : S24) : (bunF l x).length = (endC l x).2.toNat := by
  unfold bunF; split
  · rw [List.length_set, bunAll_len]
  · exact bunAll_len _ _
theorem bun_bare (h : x.f0 ≠ 0) : (bunF l x).set (endC l x).1.toNat (put81 (J81 (bunF l x) (endC l x).1) 0 z24) = bunAll l x := by
  have hml := blk_may hm; have ho := mayL_ok hml; have hn := (mayL_parts hml).1; have he := endC_ok ho hn x; obtain ⟨h1, h2, _⟩ := he.some h; obtain ⟨c, hc⟩ : ∃ c : Nat, (endC l x).1 = c := ⟨(endC l x).1.toNat, by omega⟩
  have hlt : c < (bunAll l x).length := by rw [bunAll_len]; omega
  unfold bunF; rw [if_pos h1, hc, Int.toNat_natCast, rd62_set _ c _ hlt c, if_pos rfl, List.set_set]; have hz := all_miss ho hn x c 0 (by omega) fun i hi q1 q2 => he.free i hi (by rw [q1, hc]) (by rw [q2]; rfl); have : z24 = (J81 (bunAll l x) (c : Int)).f0 := hz.symm; rw [this, put_self]; have e : J81 (bunAll l x) (c : Int) = (bunAll l x)[c] := by unfold J81; rw [Int.toNat_natCast, List.getD_eq_getElem?_getD, List.getElem?_eq_getElem hlt]; rfl
  rw [e, List.set_getElem_self]
theorem bun_none (h : x.f0 = 0) : bunF l x = bunAll l x := by
  have hml := blk_may hm; have he := endC_ok (mayL_ok hml) (mayL_parts hml).1 x; unfold bunF; rw [if_neg (by rw [he.none h]; omega)]
theorem bun_slot (r s : Nat) (hs : s < 4) (h : ¬ ((endC l x).1 = r ∧ s = 0)) : slotB (J81 (bunF l x) (r : Int)) s = slotB (J81 (bunAll l x) (r : Int)) s := by
  have hml := blk_may hm; have hb := endC_bd (mayL_ok hml) (mayL_parts hml).1 x; unfold bunF; split
  · rename_i h0
    obtain ⟨c, hc⟩ : ∃ c : Nat, (endC l x).1 = c := ⟨(endC l x).1.toNat, by omega⟩
    rw [hc, Int.toNat_natCast, rd62_set _ c _ (by rw [bunAll_len]; omega) r]; split
    · rename_i hr
      subst hr; rw [show (0 : Int) = ((0 : Nat) : Int) from rfl, slotB_put _ 0 (by omega) _ s hs, if_neg fun h1 => h ⟨hc, h1⟩]
    · rfl
  · rfl
theorem bun_last (h : x.f0 ≠ 0) : slotB (J81 (bunF l x) (endC l x).1) 0 = x := by
  have hml := blk_may hm; have he := endC_ok (mayL_ok hml) (mayL_parts hml).1 x; obtain ⟨h1, h2, _⟩ := he.some h; obtain ⟨c, hc⟩ : ∃ c : Nat, (endC l x).1 = c := ⟨(endC l x).1.toNat, by omega⟩
  unfold bunF; rw [if_pos h1, hc, Int.toNat_natCast, rd62_set _ c _ (by rw [bunAll_len]; omega) c, if_pos rfl]; rfl
theorem bun_ends (r : Nat) : endsOp (slotB (J81 (bunF l x) (r : Int)) 0).f0 = decide ((endC l x).1 = (r : Int)) := by
  have hml := blk_may hm; have ho := mayL_ok hml; have hn := (mayL_parts hml).1; have he := endC_ok ho hn x
  by_cases hr : (endC l x).1 = (r : Int)
  · have hx : x.f0 ≠ 0 := fun h => by have := he.none h; omega
    rw [decide_eq_true hr, ← hr, bun_last hm hx]; rcases blk_last hm with h | h
    · exact absurd h.1 hx
    · exact h.2.2
  · rw [decide_eq_false hr, bun_slot hm r 0 (by omega) fun h => hr h.1]; rcases all_cases ho hn x r 0 (by omega) with ⟨i, i1, _, _, i4⟩ | hz
    · have hp := plain_op (show plainI (J24 l i) = true by rw [rd_at l i i1]; exact (mayL_parts hml).2 _ (List.getElem_mem i1)); rw [i4]; unfold endsOp; rw [decide_eq_false (by omega)]; rfl
    · rw [hz]; rfl
theorem bun_place (i : Nat) (hi : i < l.length) : slotB (J81 (bunF l x) (rd (cycF l).at_ i)) (rd (cycF l).sl i).toNat = J24 l i := by
  have hml := blk_may hm; have ho := mayL_ok hml; have hn := (mayL_parts hml).1; have he := endC_ok ho hn x; obtain ⟨⟨a0, a1⟩, s0, s1⟩ := cyc_in ho hn i hi; obtain ⟨a, ea⟩ : ∃ a : Nat, rd (cycF l).at_ i = a := ⟨(rd (cycF l).at_ i).toNat, by omega⟩
  obtain ⟨b, eb⟩ : ∃ b : Nat, rd (cycF l).sl i = b := ⟨(rd (cycF l).sl i).toNat, by omega⟩
  rw [ea, eb, Int.toNat_natCast, bun_slot hm a b (by omega) fun h => he.free i hi (by rw [ea, h.1]) (by rw [eb, h.2]; rfl)]; exact all_hit ho hn x i hi a b ea eb
end
end Go.Den
end
section
-- the texts that this claim needs, out of this session's and its print's (wip/shrink.py)
namespace Go.Den
open Go Go.RowKit Go.Proofs
theorem o14 (n : Int) : CallStep Try.prog 48 [.one (.int .i64 n)] [] (.one (.int .i64 n)) [] := by
  refine CallStep.intro' (n := 4) (n0 := 0) (rs := [.tmp 2]) tb_ok Try.func48 (by kernel_rfl) rfl rfl rfl rfl rfl fun cx hcx => ?_; refine W.seqR tb_ok _ (by (repeat' first | dsimp | apply And.intro) <;> first | rfl | trivial | assumption | omega | (intros; and_intros <;> first | rfl | trivial | assumption | omega)) ?_; refine W.seqR tb_ok _ (by (repeat' first | dsimp | apply And.intro) <;> first | rfl | trivial | assumption | omega | (intros; and_intros <;> first | rfl | trivial | assumption | omega)) ?_; exact W.ret (endL1 (tb := tb) (n0 := 0) rfl rfl rfl rfl)
end Go.Den
end
section
-- the texts that this claim needs, out of this session's and its print's (wip/shrink.py)
namespace Go.Den
open Go Go.RowKit Go.Proofs
open Go.Proofs.YtibfkkjkahpobaaW.PrintWords Go.Proofs.Ytibfkkjkahpobaa.PDag
def wIns : S24 := ⟨23, 1, 0, 0, 5, ⟨#[]⟩⟩
def wEnd : S24 := ⟨33, 0, 0, 0, 0, ⟨#[]⟩⟩
theorem w_may0 : mayBlkL [] [] z24 = true := by kernel_rfl
theorem w_may1 : mayBlkL [] [wIns] wEnd = true := by kernel_rfl
theorem w_x0 : xOf ⟨[], [], z24⟩ = [] := by kernel_rfl
theorem w_x1 : xOf ⟨[], [wIns], wEnd⟩ = [⟨wIns, z24, z24, z24⟩, ⟨wEnd, z24, z24, z24⟩] := by kernel_rfl
theorem o19 : CallStep Try.prog 46 [] [] (.one (.bool true)) [] := by
  have h0 := o8 ⟨[], [], z24⟩ (Nat.zero_le _) (Nat.zero_le _); have h1 := o8 ⟨[], [wIns], wEnd⟩ (Nat.zero_le _) (by show 1 ≤ 1000000000; omega); rw [if_pos w_may0, w_x0] at h0; rw [if_pos w_may1, w_x1] at h1; refine CallStep.intro' (n := 52) (n0 := 0) (rs := [.tmp 0]) tb_ok Try.func46 (by kernel_rfl) rfl rfl rfl rfl rfl fun cx hcx => ?_; refine W.sO tb_ok ?_; refine W.sO tb_ok ?_; refine W.sO tb_ok ?_; refine W.seqR tb_ok _ (by (repeat' first | dsimp | simp only [castRow_self] | apply And.intro | (refine Exists.intro _ (Exists.intro _ (And.intro (by first | exact CallStep.pure (o14 _) rfl rfl | exact CallStep.rows (o14 _) rfl) ?_))) | (refine Exists.intro _ (And.intro (fun _ => And.intro ?_ (by first | exact CallStep.pure (o14 _) rfl rfl)) ?_))) <;> first | rfl | trivial | assumption | omega | (intros; and_intros <;> first | rfl | trivial | assumption | omega) | (intro h9; rw [h9]; rfl)) ?_; refine W.ret (endL1 (tb := tb) (n0 := 0) ?_ rfl rfl rfl); rfl
end Go.Den
end
