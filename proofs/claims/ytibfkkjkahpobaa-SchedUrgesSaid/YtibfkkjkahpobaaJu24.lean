import Derived.Test.YtibfkkjkahpobaaJu15
import Derived.Test.YtibfkkjkahpobaaJu18
import Derived.Test.YtibfkkjkahpobaaJu21
import Derived.Test.YtibfkkjkahpobaaJu23
import Derived.Test.YtibfkkjkahpobaaJu16
import Derived.Laws.BitsAllLaws
import Derived.Lib.Strings
section
-- the texts that this claim needs, out of this session's and its print's (wip/shrink.py)
namespace Go.Proofs.Ytibfkkjkahpobaa.PDag
open Go.RowKit Go.Proofs.YtibfkkjkahpobaaW.PrintWords Go.Proofs.YtibfkkjkahpobaaW.PrintLast Go.Proofs.YtibfkkjkahpobaaW.PrintMore
attribute [local go_sem] max2_int min2_int max_two min_two max_three min_three max_four min_four   -- for this text's walks alone
set_option linter.unusedVariables false
set_option linter.unusedSimpArgs false
attribute [local go_sem high] eqA51
mutual
def dag_Edges.l0 : Nat → List (S24) → List (S51) → List (S24) → Int → Int → Option ((List (S51)))
  | 0, _, _, _, _, _ => none
  | k + 1, x0, x2, x8, x9, x10 => if x10 < x9 then (if 0 ≤ x10 then (if x10 < (x8.length : Int) then (if 0 ≤ (wrap64 (x10 + 1)) then (if (wrap64 (x10 + 1)) ≤ (x0.length : Int) then ((some (x0.drop ((wrap64 (x10 + 1)) : Int).toNat : List (S24))).bind fun y171 => (dag_Edges.l1 k x0 x2 x10 x8 x9 x10 y171 (y171.length : Int) 0 ((q24 x8 x10).f0) ((q24 x8 x10).f1) ((q24 x8 x10).f2) ((q24 x8 x10).f3) ((q24 x8 x10).f4) ((q24 x8 x10).f5))) else (none)) else (none)) else (none)) else (none)) else (some x2)
def dag_Edges.l1 : Nat → List (S24) → List (S51) → Int → List (S24) → Int → Int → List (S24) → Int → Int → Int → Int → Int → Int → Int → ByteArray → Option ((List (S51)))
  | 0, _, _, _, _, _, _, _, _, _, _, _, _, _, _, _ => none
  | k + 1, x0, x2, x3, x8, x9, x10, x18, x19, x20, x171a, x171b, x171c, x171d, x171e, x171f => if x20 < x19 then (if 0 ≤ x20 then (if x20 < (x18.length : Int) then ((dag_dist.f k x171a x171b x171c x171d x171e x171f ((q24 x18 x20).f0) ((q24 x18 x20).f1) ((q24 x18 x20).f2) ((q24 x18 x20).f3) ((q24 x18 x20).f4) ((q24 x18 x20).f5)).bind fun t177 => (if t177 ≥ 0 then (if x2.length < 5864062014805 then (dag_Edges.l1 k x0 (x2 ++ [(⟨x3, wrap64 ((wrap64 (x3 + 1)) + x20), t177⟩ : S51)]) x3 x8 x9 x10 x18 x19 (wrap64 (x20 + 1)) x171a x171b x171c x171d x171e x171f) else (none)) else (dag_Edges.l1 k x0 x2 x3 x8 x9 x10 x18 x19 (wrap64 (x20 + 1)) x171a x171b x171c x171d x171e x171f))) else (none)) else (none)) else (dag_Edges.l0 k x0 x2 x8 x9 (wrap64 (x10 + 1)))
end
def dag_Edges.f (k : Nat) (l0 : List (S24)) : Option ((List (S51))) := dag_Edges.l0 k l0 ([] : List (S51)) l0 (l0.length : Int) 0
set_option maxHeartbeats 8000000 in
set_option maxRecDepth 100000 in
theorem dag_Edges.calls (k : Nat) (A0 : Option Addr) (c0 : Nat) (l0 : List (S24)) (r : List (S51)) (w : World) (hr0 : Kd.C k24 w A0 l0.length l0) (hc0 : l0.length ≤ c0) (h : dag_Edges.f k l0 = some r) :
    Calls Try.prog 56 #[.slice A0 l0.length c0] w fun e w' => ∃ v0_ : Value, e = .returned (v0_) ∧ Kd.R k51 51 w' w.heap.size (fun _ => True) v0_ r ∧ Below w.heap.size w w' := by
 have hu24 := Try.underlying24
 have hu51 := Try.underlying51
 have HR0 := As_.mk hr0
 have HC0 := As_.mk hc0
 clear hr0 hc0
 have HB := As_.mk (Below.refl w.heap.size w)
 have H : (dag_Edges.l0 k l0 ([] : List (S51)) l0 (l0.length : Int) 0) = some r := h
 clear h
 have H' := As_.mk H
 clear H
 go_enter Try.func56, Try.ntmps56
 go_wp2
 go_loopg [2, 10] k (fun kq v2 v10 w' => ∃ (x2_1 : List (S51)) (x10_1 : Int), v10 = .int .i64 x10_1 ∧ As_ (dag_Edges.l0 kq l0 x2_1 l0 (l0.length : Int) x10_1 = some r) ∧ As_ (kq ≤ k) ∧ As_ (Kd.R k51 51 w' w.heap.size (fun _ => True) v2 x2_1) ∧ As_ (Below w.heap.size w w'))
 case atStart => exact ⟨(([] : List (S51))), (0), (by first | rfl | (simp; done) | (simp [*]; done) | (simp [wrap64]; done) | (congr 1; rw [Bool.eq_iff_iff]; simp; done)), H', ⟨Nat.le_refl _⟩, ⟨by first | exact Kd.R_nil _ _ _ _ _ | exact Kd.N_nil _ _ _ _ _ | exact Kd.V_nil _ _ _ _ _ | exact Kd.Q_nil _ _ _ _ _ | exact Kd.S_nil _ _ _ _ _⟩, ⟨by repeat (first | (with_reducible first | exact HB.out | apply bA_ | apply bN_ | apply b1_) | exact HB.out)⟩⟩
 case round =>
  clear H'
  obtain ⟨x2_1, x10_1, rfl, HA, HK1, HO_2, HB⟩ := hrel
  cases gk with
  | zero => exact absurd HA.out (by simp [dag_Edges.l0])
  | succ k1 =>
   have H := HA.out
   clear HA
   simp only [dag_Edges.l0] at H
   by_cases c2 : x10_1 < (l0.length : Int)
   ·rw [if_pos c2] at H
    have c2b0 : decide (x10_1 < (l0.length : Int)) = true := decide_eq_true c2
    clear c2
    by_cases c3 : 0 ≤ x10_1
    ·rw [if_pos c3] at H
     have c3b0 : decide (0 ≤ x10_1) = true := decide_eq_true c3
     clear c3
     by_cases c4 : x10_1 < (l0.length : Int)
     ·rw [if_pos c4] at H
      have c4b0 : decide (x10_1 < (l0.length : Int)) = true := decide_eq_true c4
      clear c4
      obtain ⟨ji5, hji5⟩ : ∃ j_ : Int, (wrap64 (x10_1 + 1)) = j_ := ⟨_, rfl⟩
      replace H : (if 0 ≤ (ji5) then (if (ji5) ≤ (l0.length : Int) then ((some (l0.drop ((ji5) : Int).toNat : List (S24))).bind fun y171 => (dag_Edges.l1 k1 l0 x2_1 x10_1 l0 (l0.length : Int) x10_1 y171 (y171.length : Int) 0 ((q24 l0 x10_1).f0) ((q24 l0 x10_1).f1) ((q24 l0 x10_1).f2) ((q24 l0 x10_1).f3) ((q24 l0 x10_1).f4) ((q24 l0 x10_1).f5))) else (none)) else (none)) = some r := by first | (rw [hji5] at H; exact H) | (simp only [hji5] at H ⊢; exact H)
      have hji5w : (IntKind.i64.wrap (x10_1 + 1)) = ji5 := (i64_w _).trans hji5
      by_cases c6 : 0 ≤ (ji5)
      ·rw [if_pos c6] at H
       have c6b0 := eq_true c6
       have c6b1 : decide (0 ≤ (ji5)) = true := decide_eq_true c6
       clear c6
       by_cases c7 : (ji5) ≤ (l0.length : Int)
       ·rw [if_pos c7] at H
        have c7b0 := eq_true c7
        have c7b1 : decide ((ji5) ≤ (l0.length : Int)) = true := decide_eq_true c7
        clear c7
        obtain ⟨y171, hy171⟩ : ∃ y_ : List (S24), y_ = (l0.drop ((ji5) : Int).toNat) := ⟨_, rfl⟩
        replace H : (dag_Edges.l1 k1 l0 x2_1 x10_1 l0 (l0.length : Int) x10_1 y171 (y171.length : Int) 0 ((q24 l0 x10_1).f0) ((q24 l0 x10_1).f1) ((q24 l0 x10_1).f2) ((q24 l0 x10_1).f3) ((q24 l0 x10_1).f4) ((q24 l0 x10_1).f5)) = some r := by first | (rw [hy171]; with_reducible exact H) | (have H2_ := (Option.bind_some _ _).symm.trans H; rw [hy171]; with_reducible exact H2_) | (have H2_ := (Option.bind_some _ _).symm.trans H; with_reducible exact H2_) | with_reducible exact H | (rw [hy171]; exact H) | exact H
        have Ny171 := As_.mk hy171
        clear hy171
        have H' := As_.mk H
        clear H
        have p169 : 0 ≤ (x10_1 : Int) := of_decide_eq_true (by assumption)
        have q169 : x10_1 < (l0.length : Int) := of_decide_eq_true (by assumption)
        obtain ⟨ad169, e169, hx169_0, hx169_1, hx169_2, hx169_3, hx169_4, hx169_5⟩ := at_T24 HR0.out x10_1 p169 q169
        cases e169
        replace hx169_0 := (HB.out.cell (World.block_lt_of_cell? w _ hx169_0)).trans hx169_0
        replace hx169_1 := (HB.out.cell (World.block_lt_of_cell? w _ hx169_1)).trans hx169_1
        replace hx169_2 := (HB.out.cell (World.block_lt_of_cell? w _ hx169_2)).trans hx169_2
        replace hx169_3 := (HB.out.cell (World.block_lt_of_cell? w _ hx169_3)).trans hx169_3
        replace hx169_4 := (HB.out.cell (World.block_lt_of_cell? w _ hx169_4)).trans hx169_4
        replace hx169_5 := (HB.out.cell (World.block_lt_of_cell? w _ hx169_5)).trans hx169_5
        replace p169 := eq_true p169
        replace q169 := eq_true q169
        go_wp2_with (first | ((with_reducible refine gate_dst (N := 4) rfl ?_); refine box_event ?hg (N := 4) ?hd (cs := #[.int .i64 0, .int .i64 0, .int .i64 0, .int .i64 0, .int .i64 0, .string (⟨#[]⟩ : ByteArray)]) (t := 24) ?hr ?_; (case hd => rfl); (case hg => rfl); (case hr => first | (go_simp; done) | (go_simp; rfl)); intro gb170 hg w8 hbox hb; have n0_ := As_.mk (Kd.R_below (by (with_reducible repeat (first | apply Kd.R_alloc | apply Kd.R_drewN | apply Kd.R_drew)); exact HO_2.out) hb); have n1_ := As_.mk (bT_ (by repeat (first | (with_reducible first | exact HB.out | apply bA_ | apply bN_ | apply b1_) | exact HB.out)) hb); have n2_ := As_.mk (hbox); have n3_ := As_.mk ((by rw [hg]; exact (bY_ (by repeat (first | (with_reducible first | exact HB.out | apply bA_ | apply bN_ | apply b1_) | exact HB.out))) : w.heap.size ≤ gb170)); have n4_ := As_.mk ((by rw [hg]; exact (bY_ (by repeat (first | (with_reducible first | exact HB.out | apply bA_ | apply bN_ | apply b1_) | exact HB.out))) : w.heap.size ≤ gb170)); clear HO_2; clear HB; have HO_2 := n0_; have HB := n1_; have BK170 := n2_; have GW170 := n3_; have GE170 := n4_; clear n0_ n1_ n2_ n3_ n4_; clear hb hbox hg; have hcz9_0 : w8.cell? ⟨gb170, 0, none⟩ = some (.int .i64 0) := (bC_ BK170.out 0).trans rfl; have hcz9_1 : w8.cell? ⟨gb170, 1, none⟩ = some (.int .i64 0) := (bC_ BK170.out 1).trans rfl; have hcz9_2 : w8.cell? ⟨gb170, 2, none⟩ = some (.int .i64 0) := (bC_ BK170.out 2).trans rfl; have hcz9_3 : w8.cell? ⟨gb170, 3, none⟩ = some (.int .i64 0) := (bC_ BK170.out 3).trans rfl; have hcz9_4 : w8.cell? ⟨gb170, 4, none⟩ = some (.int .i64 0) := (bC_ BK170.out 4).trans rfl; have hcz9_5 : w8.cell? ⟨gb170, 5, none⟩ = some (.string (⟨#[]⟩ : ByteArray)) := (bC_ BK170.out 5).trans rfl; have hfz9_0 := bZ_ BK170.out 0; have hfz9_1 := bZ_ BK170.out 1; have hfz9_2 := bZ_ BK170.out 2; have hfz9_3 := bZ_ BK170.out 3; have hfz9_4 := bZ_ BK170.out 4; have hfz9_5 := bZ_ BK170.out 5) | ((with_reducible refine gate_store (t := 24) (p := 4) rfl ?_); refine store_event (t := 24) (p := 4) (v := ?vo_w10) (w1 := ((((((w8.setCell ⟨gb170, 0, none⟩ (.int .i64 ((q24 l0 x10_1).f0))).setCell ⟨gb170, 1, none⟩ (.int .i64 ((q24 l0 x10_1).f1))).setCell ⟨gb170, 2, none⟩ (.int .i64 ((q24 l0 x10_1).f2))).setCell ⟨gb170, 3, none⟩ (.int .i64 ((q24 l0 x10_1).f3))).setCell ⟨gb170, 4, none⟩ (.int .i64 ((q24 l0 x10_1).f4))).setCell ⟨gb170, 5, none⟩ (.string ((q24 l0 x10_1).f5)))) ?hg ?ho ?hn ?hr ?_; (case ho => rfl); (case hg => rfl); (case hn => rfl); (case hr => first | (go_simp; done) | (go_simp; rfl)); intro w10 hw; have n0_ : As_ (Kd.R k51 51 w10 w.heap.size (fun _ => True) u2 x2_1) := ⟨(by rw [hw]; exact (by (with_reducible repeat (first | apply Kd.R_alloc | apply Kd.R_drewN | apply Kd.R_drew)); exact Kd.R_mono (Kd.R_far (p := ⟨gb170, 5, none⟩) (Kd.R_far (p := ⟨gb170, 4, none⟩) (Kd.R_far (p := ⟨gb170, 3, none⟩) (Kd.R_far (p := ⟨gb170, 2, none⟩) (Kd.R_far (p := ⟨gb170, 1, none⟩) (Kd.R_far (p := ⟨gb170, 0, none⟩) (Kd.R_types HO_2.out BK170.out (by decide)) (fun _ hk => hk.2) (.int .i64 ((q24 l0 x10_1).f0))) (fun _ hk => hk.2) (.int .i64 ((q24 l0 x10_1).f1))) (fun _ hk => hk.2) (.int .i64 ((q24 l0 x10_1).f2))) (fun _ hk => hk.2) (.int .i64 ((q24 l0 x10_1).f3))) (fun _ hk => hk.2) (.int .i64 ((q24 l0 x10_1).f4))) (fun _ hk => hk.2) (.string ((q24 l0 x10_1).f5))) (fun _ hk => trivial)))⟩; have n1_ : As_ (w10.heap[gb170]? = some (.cells #[.int .i64 ((q24 l0 x10_1).f0), .int .i64 ((q24 l0 x10_1).f1), .int .i64 ((q24 l0 x10_1).f2), .int .i64 ((q24 l0 x10_1).f3), .int .i64 ((q24 l0 x10_1).f4), .string ((q24 l0 x10_1).f5)] 24 (0, 0))) := ⟨(by rw [hw]; exact (by (with_reducible repeat (first | refine kN_ ?_ _ | refine kD_ ?_ | refine kA_ ?_ _)); refine blk_put (cs := #[.int .i64 ((q24 l0 x10_1).f0), .int .i64 ((q24 l0 x10_1).f1), .int .i64 ((q24 l0 x10_1).f2), .int .i64 ((q24 l0 x10_1).f3), .int .i64 ((q24 l0 x10_1).f4), .string (⟨#[]⟩ : ByteArray)]) ?_ 5 _ rfl; (with_reducible repeat (first | refine kN_ ?_ _ | refine kD_ ?_ | refine kA_ ?_ _)); refine blk_put (cs := #[.int .i64 ((q24 l0 x10_1).f0), .int .i64 ((q24 l0 x10_1).f1), .int .i64 ((q24 l0 x10_1).f2), .int .i64 ((q24 l0 x10_1).f3), .int .i64 0, .string (⟨#[]⟩ : ByteArray)]) ?_ 4 _ rfl; (with_reducible repeat (first | refine kN_ ?_ _ | refine kD_ ?_ | refine kA_ ?_ _)); refine blk_put (cs := #[.int .i64 ((q24 l0 x10_1).f0), .int .i64 ((q24 l0 x10_1).f1), .int .i64 ((q24 l0 x10_1).f2), .int .i64 0, .int .i64 0, .string (⟨#[]⟩ : ByteArray)]) ?_ 3 _ rfl; (with_reducible repeat (first | refine kN_ ?_ _ | refine kD_ ?_ | refine kA_ ?_ _)); refine blk_put (cs := #[.int .i64 ((q24 l0 x10_1).f0), .int .i64 ((q24 l0 x10_1).f1), .int .i64 0, .int .i64 0, .int .i64 0, .string (⟨#[]⟩ : ByteArray)]) ?_ 2 _ rfl; (with_reducible repeat (first | refine kN_ ?_ _ | refine kD_ ?_ | refine kA_ ?_ _)); refine blk_put (cs := #[.int .i64 ((q24 l0 x10_1).f0), .int .i64 0, .int .i64 0, .int .i64 0, .int .i64 0, .string (⟨#[]⟩ : ByteArray)]) ?_ 1 _ rfl; (with_reducible repeat (first | refine kN_ ?_ _ | refine kD_ ?_ | refine kA_ ?_ _)); refine blk_put (cs := #[.int .i64 0, .int .i64 0, .int .i64 0, .int .i64 0, .int .i64 0, .string (⟨#[]⟩ : ByteArray)]) ?_ 0 _ rfl; (with_reducible repeat (first | refine kN_ ?_ _ | refine kD_ ?_ | refine kA_ ?_ _)); exact BK170.out))⟩; have n2_ : As_ (Below w.heap.size w w10) := ⟨(by rw [hw]; exact (by repeat (first | (with_reducible first | exact HB.out | apply bA_ | apply bN_ | apply b1_ | refine bS_ ?_ GE170.out) | exact HB.out)))⟩; clear hw; clear HO_2; clear BK170; clear HB; have HO_2 := n0_; have BK170 := n1_; have HB := n2_; clear n0_ n1_ n2_; have q11 : ((ji5) : Int) ≤ ((l0.length : Int) : Int) := of_decide_eq_true (by assumption); obtain ⟨i011, hi011, _, hsz11, _⟩ := info_parts info24; have hroom11 : l0.length ≤ c0 := HC0.out; have hC11 : Kd.C k24 _ (some ad169) l0.length l0 := HR0.out; have q011 : (0 : Int) ≤ ((ji5) : Int) := of_decide_eq_true (by assumption); have hcut11 := cut_from (P := Try.prog) 22 24 .i64 Try.underlying22 hi011 6 hsz11 (some ad169) l0.length c0 (ji5) q011 q11; have hr11 := Kd.C_drop (m := ((ji5) : Int).toNat) (c := c0) hC11 (by omega) hroom11; obtain ⟨A11, hA11⟩ : ∃ A1, A1 = (if c0 = ((ji5) : Int).toNat then (some ad169) else ((some ad169) : Option Addr).map (·.add (((ji5) : Int).toNat * 6))) := ⟨_, rfl⟩; obtain ⟨c11, hc11⟩ : ∃ c1, c1 = c0 - ((ji5) : Int).toNat := ⟨_, rfl⟩; have hy11 : y171.length = l0.length - ((ji5) : Int).toNat := (by rw [Ny171.out, List.length_drop] <;> omega); rw [show (l0).drop ((ji5) : Int).toNat = y171 from Ny171.out.symm] at hr11; replace hr11 : Kd.C k24 _ A11 y171.length y171 := (by rw [hA11]; exact hr11); rw [← hy11, ← hA11, ← hc11] at hcut11; have HR174 := As_.mk hr11; have HC174 := As_.mk (show y171.length ≤ c11 from by rw [hy11, hc11]; exact Nat.sub_le_sub_right hroom11 _); clear hr11 hC11 hroom11 hi011 hsz11 hc11; have KY11 := As_.mk hy11; have KA11 := As_.mk hA11; clear hy11 hA11; replace q11 := eq_true q11))
        go_loopg [2, 20] k1 (fun kq v2 v20 w' => ∃ (x2_2 : List (S51)) (x20_2 : Int), v20 = .int .i64 x20_2 ∧ As_ (dag_Edges.l1 kq l0 x2_2 x10_1 l0 (l0.length : Int) x10_1 y171 (y171.length : Int) x20_2 ((q24 l0 x10_1).f0) ((q24 l0 x10_1).f1) ((q24 l0 x10_1).f2) ((q24 l0 x10_1).f3) ((q24 l0 x10_1).f4) ((q24 l0 x10_1).f5) = some r) ∧ As_ (kq ≤ k1) ∧ As_ (Kd.R k51 51 w' w.heap.size (fun _ => True) v2 x2_2) ∧ As_ (w'.heap[gb170]? = some (.cells #[.int .i64 ((q24 l0 x10_1).f0), .int .i64 ((q24 l0 x10_1).f1), .int .i64 ((q24 l0 x10_1).f2), .int .i64 ((q24 l0 x10_1).f3), .int .i64 ((q24 l0 x10_1).f4), .string ((q24 l0 x10_1).f5)] 24 (0, 0))) ∧ As_ (Below w.heap.size w w'))
        case atStart => exact ⟨(x2_1), (0), (by first | rfl | (simp; done) | (simp [*]; done) | (simp [wrap64]; done) | (congr 1; rw [Bool.eq_iff_iff]; simp; done)), H', ⟨Nat.le_refl _⟩, ⟨by (with_reducible repeat (first | apply Kd.R_alloc | apply Kd.R_drewN | apply Kd.R_drew)); exact HO_2.out⟩, ⟨by (with_reducible repeat (first | refine kN_ ?_ _ | refine kD_ ?_ | refine kA_ ?_ _)); exact BK170.out⟩, ⟨by repeat (first | (with_reducible first | exact HB.out | apply bA_ | apply bN_ | apply b1_ | refine bS_ ?_ GE170.out) | exact HB.out)⟩⟩
        case round =>
         clear H'
         obtain ⟨x2_2, x20_2, rfl, HA, HK2, HO_2, BK170, HB⟩ := hrel
         cases gk with
         | zero => exact absurd HA.out (by simp [dag_Edges.l1])
         | succ k2 =>
          have H := HA.out
          clear HA
          simp only [dag_Edges.l1] at H
          by_cases c12 : x20_2 < (y171.length : Int)
          ·rw [if_pos c12] at H
           have c12b0 : decide (x20_2 < (y171.length : Int)) = true := decide_eq_true c12
           clear c12
           by_cases c13 : 0 ≤ x20_2
           ·rw [if_pos c13] at H
            have c13b0 : decide (0 ≤ x20_2) = true := decide_eq_true c13
            clear c13
            by_cases c14 : x20_2 < (y171.length : Int)
            ·rw [if_pos c14] at H
             have c14b0 : decide (x20_2 < (y171.length : Int)) = true := decide_eq_true c14
             clear c14
             replace H := Option.bind_eq_some_iff.mp H
             obtain ⟨t177, A150, H⟩ := H
             replace H : (if t177 ≥ 0 then (if x2_2.length < 5864062014805 then (dag_Edges.l1 k2 l0 (x2_2 ++ [(⟨x10_1, wrap64 ((wrap64 (x10_1 + 1)) + x20_2), t177⟩ : S51)]) x10_1 l0 (l0.length : Int) x10_1 y171 (y171.length : Int) (wrap64 (x20_2 + 1)) ((q24 l0 x10_1).f0) ((q24 l0 x10_1).f1) ((q24 l0 x10_1).f2) ((q24 l0 x10_1).f3) ((q24 l0 x10_1).f4) ((q24 l0 x10_1).f5)) else (none)) else (dag_Edges.l1 k2 l0 x2_2 x10_1 l0 (l0.length : Int) x10_1 y171 (y171.length : Int) (wrap64 (x20_2 + 1)) ((q24 l0 x10_1).f0) ((q24 l0 x10_1).f1) ((q24 l0 x10_1).f2) ((q24 l0 x10_1).f3) ((q24 l0 x10_1).f4) ((q24 l0 x10_1).f5))) = some r := H
             have A15 := As_.mk A150
             clear A150
             by_cases c16 : t177 ≥ 0
             ·rw [if_pos c16] at H
              have c16b0 : decide (0 ≤ t177) = true := decide_eq_true c16
              clear c16
              by_cases c17 : x2_2.length < 5864062014805
              ·rw [if_pos c17] at H
               have LMc17 := As_.mk c17
               clear c17
               obtain ⟨y178, hy178⟩ : ∃ y_ : List (S51), y_ = (x2_2 ++ [(⟨x10_1, wrap64 ((wrap64 (x10_1 + 1)) + x20_2), t177⟩ : S51)]) := ⟨_, rfl⟩
               replace H : (dag_Edges.l1 k2 l0 y178 x10_1 l0 (l0.length : Int) x10_1 y171 (y171.length : Int) (wrap64 (x20_2 + 1)) ((q24 l0 x10_1).f0) ((q24 l0 x10_1).f1) ((q24 l0 x10_1).f2) ((q24 l0 x10_1).f3) ((q24 l0 x10_1).f4) ((q24 l0 x10_1).f5)) = some r := by first | (rw [hy178]; with_reducible exact H) | (have H2_ := (Option.bind_some _ _).symm.trans H; rw [hy178]; with_reducible exact H2_) | (have H2_ := (Option.bind_some _ _).symm.trans H; with_reducible exact H2_) | with_reducible exact H | (rw [hy178]; exact H) | exact H
               rw [hji5] at hy178
               have Ny178 := As_.mk hy178
               clear hy178
               have H' := As_.mk H
               clear H
               have p175 : 0 ≤ (x20_2 : Int) := of_decide_eq_true (by assumption)
               have q175 : x20_2 < (y171.length : Int) := of_decide_eq_true (by assumption)
               obtain ⟨ad175, e175, hx175_0, hx175_1, hx175_2, hx175_3, hx175_4, hx175_5⟩ := at_T24 HR174.out x20_2 p175 q175
               cases e175
               replace hx175_0 := (HB.out.cell (World.block_lt_of_cell? w _ hx175_0)).trans hx175_0
               replace hx175_1 := (HB.out.cell (World.block_lt_of_cell? w _ hx175_1)).trans hx175_1
               replace hx175_2 := (HB.out.cell (World.block_lt_of_cell? w _ hx175_2)).trans hx175_2
               replace hx175_3 := (HB.out.cell (World.block_lt_of_cell? w _ hx175_3)).trans hx175_3
               replace hx175_4 := (HB.out.cell (World.block_lt_of_cell? w _ hx175_4)).trans hx175_4
               replace hx175_5 := (HB.out.cell (World.block_lt_of_cell? w _ hx175_5)).trans hx175_5
               replace p175 := eq_true p175
               replace q175 := eq_true q175
               go_wp2_with (first | ((with_reducible refine gate_dst (N := 6) rfl ?_); refine box_event ?hg (N := 6) ?hd (cs := #[.int .i64 0, .int .i64 0, .int .i64 0, .int .i64 0, .int .i64 0, .string (⟨#[]⟩ : ByteArray)]) (t := 24) ?hr ?_; (case hd => rfl); (case hg => rfl); (case hr => first | (go_simp; done) | (go_simp; rfl)); intro gb176 hg w18 hbox hb; have n0_ := As_.mk (Kd.R_below (by (with_reducible repeat (first | apply Kd.R_alloc | apply Kd.R_drewN | apply Kd.R_drew)); exact HO_2.out) hb); have n1_ := As_.mk (kB_ (g := gb170) (o := .cells #[.int .i64 ((q24 l0 x10_1).f0), .int .i64 ((q24 l0 x10_1).f1), .int .i64 ((q24 l0 x10_1).f2), .int .i64 ((q24 l0 x10_1).f3), .int .i64 ((q24 l0 x10_1).f4), .string ((q24 l0 x10_1).f5)] 24 (0, 0)) (by (with_reducible repeat (first | refine kN_ ?_ _ | refine kD_ ?_ | refine kA_ ?_ _)); exact BK170.out) hb); have n2_ := As_.mk (bT_ (by repeat (first | (with_reducible first | exact HB.out | apply bA_ | apply bN_ | apply b1_ | refine bS_ ?_ GE170.out) | exact HB.out)) hb); have n3_ := As_.mk (hbox); have n4_ := As_.mk ((by rw [hg]; exact (bY_ (by repeat (first | (with_reducible first | exact HB.out | apply bA_ | apply bN_ | apply b1_ | refine bS_ ?_ GE170.out) | exact HB.out))) : w.heap.size ≤ gb176)); have n5_ := As_.mk ((by rw [hg]; exact (bY_ (by repeat (first | (with_reducible first | exact HB.out | apply bA_ | apply bN_ | apply b1_ | refine bS_ ?_ GE170.out) | exact HB.out))) : w.heap.size ≤ gb176)); have n6_ := As_.mk ((by rw [hg]; exact Nat.ne_of_lt (blk_lt (g := gb170) (o := .cells #[.int .i64 ((q24 l0 x10_1).f0), .int .i64 ((q24 l0 x10_1).f1), .int .i64 ((q24 l0 x10_1).f2), .int .i64 ((q24 l0 x10_1).f3), .int .i64 ((q24 l0 x10_1).f4), .string ((q24 l0 x10_1).f5)] 24 (0, 0)) (by (with_reducible repeat (first | refine kN_ ?_ _ | refine kD_ ?_ | refine kA_ ?_ _)); exact BK170.out)) : gb170 ≠ gb176)); have n7_ := As_.mk ((by rw [hg]; exact Nat.ne_of_gt (blk_lt (g := gb170) (o := .cells #[.int .i64 ((q24 l0 x10_1).f0), .int .i64 ((q24 l0 x10_1).f1), .int .i64 ((q24 l0 x10_1).f2), .int .i64 ((q24 l0 x10_1).f3), .int .i64 ((q24 l0 x10_1).f4), .string ((q24 l0 x10_1).f5)] 24 (0, 0)) (by (with_reducible repeat (first | refine kN_ ?_ _ | refine kD_ ?_ | refine kA_ ?_ _)); exact BK170.out)) : gb176 ≠ gb170)); clear HO_2; clear BK170; clear HB; have HO_2 := n0_; have BK170 := n1_; have HB := n2_; have BK176 := n3_; have GW176 := n4_; have GE176 := n5_; have NB170_176 := n6_; have NB176_170 := n7_; clear n0_ n1_ n2_ n3_ n4_ n5_ n6_ n7_; clear hb hbox hg; have hnb19 := NB176_170.out; have hnc19 := NB170_176.out; have hcz20_0 : w18.cell? ⟨gb176, 0, none⟩ = some (.int .i64 0) := (bC_ BK176.out 0).trans rfl; have hcz20_1 : w18.cell? ⟨gb176, 1, none⟩ = some (.int .i64 0) := (bC_ BK176.out 1).trans rfl; have hcz20_2 : w18.cell? ⟨gb176, 2, none⟩ = some (.int .i64 0) := (bC_ BK176.out 2).trans rfl; have hcz20_3 : w18.cell? ⟨gb176, 3, none⟩ = some (.int .i64 0) := (bC_ BK176.out 3).trans rfl; have hcz20_4 : w18.cell? ⟨gb176, 4, none⟩ = some (.int .i64 0) := (bC_ BK176.out 4).trans rfl; have hcz20_5 : w18.cell? ⟨gb176, 5, none⟩ = some (.string (⟨#[]⟩ : ByteArray)) := (bC_ BK176.out 5).trans rfl; have hfz20_0 := bZ_ BK176.out 0; have hfz20_1 := bZ_ BK176.out 1; have hfz20_2 := bZ_ BK176.out 2; have hfz20_3 := bZ_ BK176.out 3; have hfz20_4 := bZ_ BK176.out 4; have hfz20_5 := bZ_ BK176.out 5; have hcz21_0 : w18.cell? ⟨gb170, 0, none⟩ = some (.int .i64 ((q24 l0 x10_1).f0)) := (bC_ BK170.out 0).trans rfl; have hcz21_1 : w18.cell? ⟨gb170, 1, none⟩ = some (.int .i64 ((q24 l0 x10_1).f1)) := (bC_ BK170.out 1).trans rfl; have hcz21_2 : w18.cell? ⟨gb170, 2, none⟩ = some (.int .i64 ((q24 l0 x10_1).f2)) := (bC_ BK170.out 2).trans rfl; have hcz21_3 : w18.cell? ⟨gb170, 3, none⟩ = some (.int .i64 ((q24 l0 x10_1).f3)) := (bC_ BK170.out 3).trans rfl; have hcz21_4 : w18.cell? ⟨gb170, 4, none⟩ = some (.int .i64 ((q24 l0 x10_1).f4)) := (bC_ BK170.out 4).trans rfl; have hcz21_5 : w18.cell? ⟨gb170, 5, none⟩ = some (.string ((q24 l0 x10_1).f5)) := (bC_ BK170.out 5).trans rfl; have hfz21_0 := bZ_ BK170.out 0; have hfz21_1 := bZ_ BK170.out 1; have hfz21_2 := bZ_ BK170.out 2; have hfz21_3 := bZ_ BK170.out 3; have hfz21_4 := bZ_ BK170.out 4; have hfz21_5 := bZ_ BK170.out 5) | ((with_reducible refine gC_ (f := 91) rfl ?_); refine goesL_ (some 27) rfl rfl Try.func91 (by kernel_rfl) rfl #[.agg #[.int .i64 ((q24 l0 x10_1).f0), .int .i64 ((q24 l0 x10_1).f1), .int .i64 ((q24 l0 x10_1).f2), .int .i64 ((q24 l0 x10_1).f3), .int .i64 ((q24 l0 x10_1).f4), .string ((q24 l0 x10_1).f5)], .agg #[.int .i64 ((q24 y171 x20_2).f0), .int .i64 ((q24 y171 x20_2).f1), .int .i64 ((q24 y171 x20_2).f2), .int .i64 ((q24 y171 x20_2).f3), .int .i64 ((q24 y171 x20_2).f4), .string ((q24 y171 x20_2).f5)]] rfl (by (try simp only [List.map_toArray, List.map_cons, List.map_nil]); first | done | rfl) ?_; (with_reducible refine (dag_dist.calls k2 ((q24 l0 x10_1).f0) ((q24 l0 x10_1).f1) ((q24 l0 x10_1).f2) ((q24 l0 x10_1).f3) ((q24 l0 x10_1).f4) ((q24 l0 x10_1).f5) ((q24 y171 x20_2).f0) ((q24 y171 x20_2).f1) ((q24 y171 x20_2).f2) ((q24 y171 x20_2).f3) ((q24 y171 x20_2).f4) ((q24 y171 x20_2).f5) t177 _ A15.out).mono ?_); rintro e w22 ⟨rfl, hb⟩; refine ⟨_, rfl, ?_⟩; have n0_ := As_.mk (Kd.R_below (by (with_reducible repeat (first | apply Kd.R_alloc | apply Kd.R_drewN | apply Kd.R_drew)); exact (Kd.R_mono (Kd.R_far (p := ⟨gb176, 5, none⟩) (Kd.R_far (p := ⟨gb176, 4, none⟩) (Kd.R_far (p := ⟨gb176, 3, none⟩) (Kd.R_far (p := ⟨gb176, 2, none⟩) (Kd.R_far (p := ⟨gb176, 1, none⟩) (Kd.R_far (p := ⟨gb176, 0, none⟩) (Kd.R_types HO_2.out BK176.out (by decide)) (fun _ hk => hk.2) (.int .i64 ((q24 y171 x20_2).f0))) (fun _ hk => hk.2) (.int .i64 ((q24 y171 x20_2).f1))) (fun _ hk => hk.2) (.int .i64 ((q24 y171 x20_2).f2))) (fun _ hk => hk.2) (.int .i64 ((q24 y171 x20_2).f3))) (fun _ hk => hk.2) (.int .i64 ((q24 y171 x20_2).f4))) (fun _ hk => hk.2) (.string ((q24 y171 x20_2).f5))) (fun _ h_ => h_.1))) hb); have n1_ := As_.mk (kB_ (g := gb170) (o := .cells #[.int .i64 ((q24 l0 x10_1).f0), .int .i64 ((q24 l0 x10_1).f1), .int .i64 ((q24 l0 x10_1).f2), .int .i64 ((q24 l0 x10_1).f3), .int .i64 ((q24 l0 x10_1).f4), .string ((q24 l0 x10_1).f5)] 24 (0, 0)) (by (with_reducible repeat (first | refine kN_ ?_ _ | refine kD_ ?_ | refine kA_ ?_ _)); refine blk_far ?_ NB170_176.out _; (with_reducible repeat (first | refine kN_ ?_ _ | refine kD_ ?_ | refine kA_ ?_ _)); refine blk_far ?_ NB170_176.out _; (with_reducible repeat (first | refine kN_ ?_ _ | refine kD_ ?_ | refine kA_ ?_ _)); refine blk_far ?_ NB170_176.out _; (with_reducible repeat (first | refine kN_ ?_ _ | refine kD_ ?_ | refine kA_ ?_ _)); refine blk_far ?_ NB170_176.out _; (with_reducible repeat (first | refine kN_ ?_ _ | refine kD_ ?_ | refine kA_ ?_ _)); refine blk_far ?_ NB170_176.out _; (with_reducible repeat (first | refine kN_ ?_ _ | refine kD_ ?_ | refine kA_ ?_ _)); refine blk_far ?_ NB170_176.out _; (with_reducible repeat (first | refine kN_ ?_ _ | refine kD_ ?_ | refine kA_ ?_ _)); exact BK170.out) hb); have n2_ := As_.mk (kB_ (g := gb176) (o := .cells #[.int .i64 ((q24 y171 x20_2).f0), .int .i64 ((q24 y171 x20_2).f1), .int .i64 ((q24 y171 x20_2).f2), .int .i64 ((q24 y171 x20_2).f3), .int .i64 ((q24 y171 x20_2).f4), .string ((q24 y171 x20_2).f5)] 24 (0, 0)) (by (with_reducible repeat (first | refine kN_ ?_ _ | refine kD_ ?_ | refine kA_ ?_ _)); refine blk_put (cs := #[.int .i64 ((q24 y171 x20_2).f0), .int .i64 ((q24 y171 x20_2).f1), .int .i64 ((q24 y171 x20_2).f2), .int .i64 ((q24 y171 x20_2).f3), .int .i64 ((q24 y171 x20_2).f4), .string (⟨#[]⟩ : ByteArray)]) ?_ 5 _ rfl; (with_reducible repeat (first | refine kN_ ?_ _ | refine kD_ ?_ | refine kA_ ?_ _)); refine blk_put (cs := #[.int .i64 ((q24 y171 x20_2).f0), .int .i64 ((q24 y171 x20_2).f1), .int .i64 ((q24 y171 x20_2).f2), .int .i64 ((q24 y171 x20_2).f3), .int .i64 0, .string (⟨#[]⟩ : ByteArray)]) ?_ 4 _ rfl; (with_reducible repeat (first | refine kN_ ?_ _ | refine kD_ ?_ | refine kA_ ?_ _)); refine blk_put (cs := #[.int .i64 ((q24 y171 x20_2).f0), .int .i64 ((q24 y171 x20_2).f1), .int .i64 ((q24 y171 x20_2).f2), .int .i64 0, .int .i64 0, .string (⟨#[]⟩ : ByteArray)]) ?_ 3 _ rfl; (with_reducible repeat (first | refine kN_ ?_ _ | refine kD_ ?_ | refine kA_ ?_ _)); refine blk_put (cs := #[.int .i64 ((q24 y171 x20_2).f0), .int .i64 ((q24 y171 x20_2).f1), .int .i64 0, .int .i64 0, .int .i64 0, .string (⟨#[]⟩ : ByteArray)]) ?_ 2 _ rfl; (with_reducible repeat (first | refine kN_ ?_ _ | refine kD_ ?_ | refine kA_ ?_ _)); refine blk_put (cs := #[.int .i64 ((q24 y171 x20_2).f0), .int .i64 0, .int .i64 0, .int .i64 0, .int .i64 0, .string (⟨#[]⟩ : ByteArray)]) ?_ 1 _ rfl; (with_reducible repeat (first | refine kN_ ?_ _ | refine kD_ ?_ | refine kA_ ?_ _)); refine blk_put (cs := #[.int .i64 0, .int .i64 0, .int .i64 0, .int .i64 0, .int .i64 0, .string (⟨#[]⟩ : ByteArray)]) ?_ 0 _ rfl; (with_reducible repeat (first | refine kN_ ?_ _ | refine kD_ ?_ | refine kA_ ?_ _)); exact BK176.out) hb); have n3_ := As_.mk (bT_ (by repeat (first | (with_reducible first | exact HB.out | apply bA_ | apply bN_ | apply b1_ | refine bS_ ?_ GE170.out | refine bS_ ?_ GE176.out) | exact HB.out)) hb); clear HO_2; clear BK170; clear BK176; clear HB; have HO_2 := n0_; have BK170 := n1_; have BK176 := n2_; have HB := n3_; clear n0_ n1_ n2_ n3_) | ((with_reducible refine gate_builtin (b := .append) (xs := #[.tmp 30, .tmp 38]) rfl ?_); at_builtin; refine Kd.R_append k51 (w0 := w) w.heap.size rfl (.tmp 30) (.tmp 38) 31 51 (.agg #[(.int .i64 0), (.int .i64 0), (.int .i64 0)]) 24 rfl Try.underlying31 info51 rfl (by decide) (by omega) u2 x2_2 (⟨x10_1, wrap64 (ji5 + x20_2), t177⟩ : S51) [.int .i64 x10_1, .int .i64 (wrap64 (ji5 + x20_2)), .int .i64 t177] (fun _ => True) (fun _ => False) rfl rfl ?aP (fun _ hk => hk.elim) ?aF ?aO ?aB ?aS ?aL ?_; (case aP => exact k51_mkM _ _ _ (⟨x10_1, wrap64 (ji5 + x20_2), t177⟩ : S51)); (case aB => exact (by repeat (first | (with_reducible first | exact HB.out | apply bA_ | apply bN_ | apply b1_ | refine bS_ ?_ GE170.out | refine bS_ ?_ GE176.out) | exact HB.out))); (case aF => exact (fun _ _ => trivial)); (case aO => exact (by (with_reducible repeat (first | apply Kd.R_alloc | apply Kd.R_drewN | apply Kd.R_drew)); exact HO_2.out)); (case aS => exact (bY_ (by repeat (first | (with_reducible first | exact HB.out | apply bA_ | apply bN_ | apply b1_ | refine bS_ ?_ GE170.out | refine bS_ ?_ GE176.out) | exact HB.out)))); (case aL => have := LMc17.out; omega); intro v179 w23 ho hb hg hat; rw [← Ny178.out] at ho; have n0_ := As_.mk (blk_grown (g := gb170) (o := .cells #[.int .i64 ((q24 l0 x10_1).f0), .int .i64 ((q24 l0 x10_1).f1), .int .i64 ((q24 l0 x10_1).f2), .int .i64 ((q24 l0 x10_1).f3), .int .i64 ((q24 l0 x10_1).f4), .string ((q24 l0 x10_1).f5)] 24 (0, 0)) (by (with_reducible repeat (first | refine kN_ ?_ _ | refine kD_ ?_ | refine kA_ ?_ _)); exact BK170.out) hg (Kd.R_ne HO_2.out BK170.out (by decide))); have n1_ := As_.mk (blk_grown (g := gb176) (o := .cells #[.int .i64 ((q24 y171 x20_2).f0), .int .i64 ((q24 y171 x20_2).f1), .int .i64 ((q24 y171 x20_2).f2), .int .i64 ((q24 y171 x20_2).f3), .int .i64 ((q24 y171 x20_2).f4), .string ((q24 y171 x20_2).f5)] 24 (0, 0)) (by (with_reducible repeat (first | refine kN_ ?_ _ | refine kD_ ?_ | refine kA_ ?_ _)); exact BK176.out) hg (Kd.R_ne HO_2.out BK176.out (by decide))); have n2_ := As_.mk (hb); have n3_ := As_.mk (ho); clear BK170; clear BK176; clear HB; clear HO_2; have BK170 := n0_; have BK176 := n1_; have HB := n2_; have HO180 := n3_; clear n0_ n1_ n2_ n3_; clear ho hb hg hat))
               go_roundg k2
               case measure => have := HK1.out; have := HK2.out; omega
               case rel => exact ⟨(y178), (wrap64 (x20_2 + 1)), (by first | rfl | (simp; done) | (simp [*]; done) | (simp [wrap64]; done) | (congr 1; rw [Bool.eq_iff_iff]; simp; done)), H', ⟨by have := HK1.out; have := HK2.out; omega⟩, ⟨by (with_reducible repeat (first | apply Kd.R_alloc | apply Kd.R_drewN | apply Kd.R_drew)); exact HO180.out⟩, ⟨by (with_reducible repeat (first | refine kN_ ?_ _ | refine kD_ ?_ | refine kA_ ?_ _)); exact BK170.out⟩, ⟨by repeat (first | (with_reducible first | exact HB.out | apply bA_ | apply bN_ | apply b1_ | refine bS_ ?_ GE170.out | refine bS_ ?_ GE176.out) | exact HB.out)⟩⟩
              rw [if_neg c17] at H
              exact absurd H (by simp)
             rw [if_neg c16] at H
             have c16b0 : decide (0 ≤ t177) = false := decide_eq_false c16
             clear c16
             have H' := As_.mk H
             clear H
             have p175 : 0 ≤ (x20_2 : Int) := of_decide_eq_true (by assumption)
             have q175 : x20_2 < (y171.length : Int) := of_decide_eq_true (by assumption)
             obtain ⟨ad175, e175, hx175_0, hx175_1, hx175_2, hx175_3, hx175_4, hx175_5⟩ := at_T24 HR174.out x20_2 p175 q175
             cases e175
             replace hx175_0 := (HB.out.cell (World.block_lt_of_cell? w _ hx175_0)).trans hx175_0
             replace hx175_1 := (HB.out.cell (World.block_lt_of_cell? w _ hx175_1)).trans hx175_1
             replace hx175_2 := (HB.out.cell (World.block_lt_of_cell? w _ hx175_2)).trans hx175_2
             replace hx175_3 := (HB.out.cell (World.block_lt_of_cell? w _ hx175_3)).trans hx175_3
             replace hx175_4 := (HB.out.cell (World.block_lt_of_cell? w _ hx175_4)).trans hx175_4
             replace hx175_5 := (HB.out.cell (World.block_lt_of_cell? w _ hx175_5)).trans hx175_5
             replace p175 := eq_true p175
             replace q175 := eq_true q175
             go_wp2_with (first | ((with_reducible refine gate_dst (N := 6) rfl ?_); refine box_event ?hg (N := 6) ?hd (cs := #[.int .i64 0, .int .i64 0, .int .i64 0, .int .i64 0, .int .i64 0, .string (⟨#[]⟩ : ByteArray)]) (t := 24) ?hr ?_; (case hd => rfl); (case hg => rfl); (case hr => first | (go_simp; done) | (go_simp; rfl)); intro gb176 hg w24 hbox hb; have n0_ := As_.mk (Kd.R_below (by (with_reducible repeat (first | apply Kd.R_alloc | apply Kd.R_drewN | apply Kd.R_drew)); exact HO_2.out) hb); have n1_ := As_.mk (kB_ (g := gb170) (o := .cells #[.int .i64 ((q24 l0 x10_1).f0), .int .i64 ((q24 l0 x10_1).f1), .int .i64 ((q24 l0 x10_1).f2), .int .i64 ((q24 l0 x10_1).f3), .int .i64 ((q24 l0 x10_1).f4), .string ((q24 l0 x10_1).f5)] 24 (0, 0)) (by (with_reducible repeat (first | refine kN_ ?_ _ | refine kD_ ?_ | refine kA_ ?_ _)); exact BK170.out) hb); have n2_ := As_.mk (bT_ (by repeat (first | (with_reducible first | exact HB.out | apply bA_ | apply bN_ | apply b1_ | refine bS_ ?_ GE170.out) | exact HB.out)) hb); have n3_ := As_.mk (hbox); have n4_ := As_.mk ((by rw [hg]; exact (bY_ (by repeat (first | (with_reducible first | exact HB.out | apply bA_ | apply bN_ | apply b1_ | refine bS_ ?_ GE170.out) | exact HB.out))) : w.heap.size ≤ gb176)); have n5_ := As_.mk ((by rw [hg]; exact (bY_ (by repeat (first | (with_reducible first | exact HB.out | apply bA_ | apply bN_ | apply b1_ | refine bS_ ?_ GE170.out) | exact HB.out))) : w.heap.size ≤ gb176)); have n6_ := As_.mk ((by rw [hg]; exact Nat.ne_of_lt (blk_lt (g := gb170) (o := .cells #[.int .i64 ((q24 l0 x10_1).f0), .int .i64 ((q24 l0 x10_1).f1), .int .i64 ((q24 l0 x10_1).f2), .int .i64 ((q24 l0 x10_1).f3), .int .i64 ((q24 l0 x10_1).f4), .string ((q24 l0 x10_1).f5)] 24 (0, 0)) (by (with_reducible repeat (first | refine kN_ ?_ _ | refine kD_ ?_ | refine kA_ ?_ _)); exact BK170.out)) : gb170 ≠ gb176)); have n7_ := As_.mk ((by rw [hg]; exact Nat.ne_of_gt (blk_lt (g := gb170) (o := .cells #[.int .i64 ((q24 l0 x10_1).f0), .int .i64 ((q24 l0 x10_1).f1), .int .i64 ((q24 l0 x10_1).f2), .int .i64 ((q24 l0 x10_1).f3), .int .i64 ((q24 l0 x10_1).f4), .string ((q24 l0 x10_1).f5)] 24 (0, 0)) (by (with_reducible repeat (first | refine kN_ ?_ _ | refine kD_ ?_ | refine kA_ ?_ _)); exact BK170.out)) : gb176 ≠ gb170)); clear HO_2; clear BK170; clear HB; have HO_2 := n0_; have BK170 := n1_; have HB := n2_; have BK176 := n3_; have GW176 := n4_; have GE176 := n5_; have NB170_176 := n6_; have NB176_170 := n7_; clear n0_ n1_ n2_ n3_ n4_ n5_ n6_ n7_; clear hb hbox hg; have hnb25 := NB176_170.out; have hnc25 := NB170_176.out; have hcz26_0 : w24.cell? ⟨gb176, 0, none⟩ = some (.int .i64 0) := (bC_ BK176.out 0).trans rfl; have hcz26_1 : w24.cell? ⟨gb176, 1, none⟩ = some (.int .i64 0) := (bC_ BK176.out 1).trans rfl; have hcz26_2 : w24.cell? ⟨gb176, 2, none⟩ = some (.int .i64 0) := (bC_ BK176.out 2).trans rfl; have hcz26_3 : w24.cell? ⟨gb176, 3, none⟩ = some (.int .i64 0) := (bC_ BK176.out 3).trans rfl; have hcz26_4 : w24.cell? ⟨gb176, 4, none⟩ = some (.int .i64 0) := (bC_ BK176.out 4).trans rfl; have hcz26_5 : w24.cell? ⟨gb176, 5, none⟩ = some (.string (⟨#[]⟩ : ByteArray)) := (bC_ BK176.out 5).trans rfl; have hfz26_0 := bZ_ BK176.out 0; have hfz26_1 := bZ_ BK176.out 1; have hfz26_2 := bZ_ BK176.out 2; have hfz26_3 := bZ_ BK176.out 3; have hfz26_4 := bZ_ BK176.out 4; have hfz26_5 := bZ_ BK176.out 5; have hcz27_0 : w24.cell? ⟨gb170, 0, none⟩ = some (.int .i64 ((q24 l0 x10_1).f0)) := (bC_ BK170.out 0).trans rfl; have hcz27_1 : w24.cell? ⟨gb170, 1, none⟩ = some (.int .i64 ((q24 l0 x10_1).f1)) := (bC_ BK170.out 1).trans rfl; have hcz27_2 : w24.cell? ⟨gb170, 2, none⟩ = some (.int .i64 ((q24 l0 x10_1).f2)) := (bC_ BK170.out 2).trans rfl; have hcz27_3 : w24.cell? ⟨gb170, 3, none⟩ = some (.int .i64 ((q24 l0 x10_1).f3)) := (bC_ BK170.out 3).trans rfl; have hcz27_4 : w24.cell? ⟨gb170, 4, none⟩ = some (.int .i64 ((q24 l0 x10_1).f4)) := (bC_ BK170.out 4).trans rfl; have hcz27_5 : w24.cell? ⟨gb170, 5, none⟩ = some (.string ((q24 l0 x10_1).f5)) := (bC_ BK170.out 5).trans rfl; have hfz27_0 := bZ_ BK170.out 0; have hfz27_1 := bZ_ BK170.out 1; have hfz27_2 := bZ_ BK170.out 2; have hfz27_3 := bZ_ BK170.out 3; have hfz27_4 := bZ_ BK170.out 4; have hfz27_5 := bZ_ BK170.out 5) | ((with_reducible refine gC_ (f := 91) rfl ?_); refine goesL_ (some 27) rfl rfl Try.func91 (by kernel_rfl) rfl #[.agg #[.int .i64 ((q24 l0 x10_1).f0), .int .i64 ((q24 l0 x10_1).f1), .int .i64 ((q24 l0 x10_1).f2), .int .i64 ((q24 l0 x10_1).f3), .int .i64 ((q24 l0 x10_1).f4), .string ((q24 l0 x10_1).f5)], .agg #[.int .i64 ((q24 y171 x20_2).f0), .int .i64 ((q24 y171 x20_2).f1), .int .i64 ((q24 y171 x20_2).f2), .int .i64 ((q24 y171 x20_2).f3), .int .i64 ((q24 y171 x20_2).f4), .string ((q24 y171 x20_2).f5)]] rfl (by (try simp only [List.map_toArray, List.map_cons, List.map_nil]); first | done | rfl) ?_; (with_reducible refine (dag_dist.calls k2 ((q24 l0 x10_1).f0) ((q24 l0 x10_1).f1) ((q24 l0 x10_1).f2) ((q24 l0 x10_1).f3) ((q24 l0 x10_1).f4) ((q24 l0 x10_1).f5) ((q24 y171 x20_2).f0) ((q24 y171 x20_2).f1) ((q24 y171 x20_2).f2) ((q24 y171 x20_2).f3) ((q24 y171 x20_2).f4) ((q24 y171 x20_2).f5) t177 _ A15.out).mono ?_); rintro e w28 ⟨rfl, hb⟩; refine ⟨_, rfl, ?_⟩; have n0_ := As_.mk (Kd.R_below (by (with_reducible repeat (first | apply Kd.R_alloc | apply Kd.R_drewN | apply Kd.R_drew)); exact (Kd.R_mono (Kd.R_far (p := ⟨gb176, 5, none⟩) (Kd.R_far (p := ⟨gb176, 4, none⟩) (Kd.R_far (p := ⟨gb176, 3, none⟩) (Kd.R_far (p := ⟨gb176, 2, none⟩) (Kd.R_far (p := ⟨gb176, 1, none⟩) (Kd.R_far (p := ⟨gb176, 0, none⟩) (Kd.R_types HO_2.out BK176.out (by decide)) (fun _ hk => hk.2) (.int .i64 ((q24 y171 x20_2).f0))) (fun _ hk => hk.2) (.int .i64 ((q24 y171 x20_2).f1))) (fun _ hk => hk.2) (.int .i64 ((q24 y171 x20_2).f2))) (fun _ hk => hk.2) (.int .i64 ((q24 y171 x20_2).f3))) (fun _ hk => hk.2) (.int .i64 ((q24 y171 x20_2).f4))) (fun _ hk => hk.2) (.string ((q24 y171 x20_2).f5))) (fun _ h_ => h_.1))) hb); have n1_ := As_.mk (kB_ (g := gb170) (o := .cells #[.int .i64 ((q24 l0 x10_1).f0), .int .i64 ((q24 l0 x10_1).f1), .int .i64 ((q24 l0 x10_1).f2), .int .i64 ((q24 l0 x10_1).f3), .int .i64 ((q24 l0 x10_1).f4), .string ((q24 l0 x10_1).f5)] 24 (0, 0)) (by (with_reducible repeat (first | refine kN_ ?_ _ | refine kD_ ?_ | refine kA_ ?_ _)); refine blk_far ?_ NB170_176.out _; (with_reducible repeat (first | refine kN_ ?_ _ | refine kD_ ?_ | refine kA_ ?_ _)); refine blk_far ?_ NB170_176.out _; (with_reducible repeat (first | refine kN_ ?_ _ | refine kD_ ?_ | refine kA_ ?_ _)); refine blk_far ?_ NB170_176.out _; (with_reducible repeat (first | refine kN_ ?_ _ | refine kD_ ?_ | refine kA_ ?_ _)); refine blk_far ?_ NB170_176.out _; (with_reducible repeat (first | refine kN_ ?_ _ | refine kD_ ?_ | refine kA_ ?_ _)); refine blk_far ?_ NB170_176.out _; (with_reducible repeat (first | refine kN_ ?_ _ | refine kD_ ?_ | refine kA_ ?_ _)); refine blk_far ?_ NB170_176.out _; (with_reducible repeat (first | refine kN_ ?_ _ | refine kD_ ?_ | refine kA_ ?_ _)); exact BK170.out) hb); have n2_ := As_.mk (kB_ (g := gb176) (o := .cells #[.int .i64 ((q24 y171 x20_2).f0), .int .i64 ((q24 y171 x20_2).f1), .int .i64 ((q24 y171 x20_2).f2), .int .i64 ((q24 y171 x20_2).f3), .int .i64 ((q24 y171 x20_2).f4), .string ((q24 y171 x20_2).f5)] 24 (0, 0)) (by (with_reducible repeat (first | refine kN_ ?_ _ | refine kD_ ?_ | refine kA_ ?_ _)); refine blk_put (cs := #[.int .i64 ((q24 y171 x20_2).f0), .int .i64 ((q24 y171 x20_2).f1), .int .i64 ((q24 y171 x20_2).f2), .int .i64 ((q24 y171 x20_2).f3), .int .i64 ((q24 y171 x20_2).f4), .string (⟨#[]⟩ : ByteArray)]) ?_ 5 _ rfl; (with_reducible repeat (first | refine kN_ ?_ _ | refine kD_ ?_ | refine kA_ ?_ _)); refine blk_put (cs := #[.int .i64 ((q24 y171 x20_2).f0), .int .i64 ((q24 y171 x20_2).f1), .int .i64 ((q24 y171 x20_2).f2), .int .i64 ((q24 y171 x20_2).f3), .int .i64 0, .string (⟨#[]⟩ : ByteArray)]) ?_ 4 _ rfl; (with_reducible repeat (first | refine kN_ ?_ _ | refine kD_ ?_ | refine kA_ ?_ _)); refine blk_put (cs := #[.int .i64 ((q24 y171 x20_2).f0), .int .i64 ((q24 y171 x20_2).f1), .int .i64 ((q24 y171 x20_2).f2), .int .i64 0, .int .i64 0, .string (⟨#[]⟩ : ByteArray)]) ?_ 3 _ rfl; (with_reducible repeat (first | refine kN_ ?_ _ | refine kD_ ?_ | refine kA_ ?_ _)); refine blk_put (cs := #[.int .i64 ((q24 y171 x20_2).f0), .int .i64 ((q24 y171 x20_2).f1), .int .i64 0, .int .i64 0, .int .i64 0, .string (⟨#[]⟩ : ByteArray)]) ?_ 2 _ rfl; (with_reducible repeat (first | refine kN_ ?_ _ | refine kD_ ?_ | refine kA_ ?_ _)); refine blk_put (cs := #[.int .i64 ((q24 y171 x20_2).f0), .int .i64 0, .int .i64 0, .int .i64 0, .int .i64 0, .string (⟨#[]⟩ : ByteArray)]) ?_ 1 _ rfl; (with_reducible repeat (first | refine kN_ ?_ _ | refine kD_ ?_ | refine kA_ ?_ _)); refine blk_put (cs := #[.int .i64 0, .int .i64 0, .int .i64 0, .int .i64 0, .int .i64 0, .string (⟨#[]⟩ : ByteArray)]) ?_ 0 _ rfl; (with_reducible repeat (first | refine kN_ ?_ _ | refine kD_ ?_ | refine kA_ ?_ _)); exact BK176.out) hb); have n3_ := As_.mk (bT_ (by repeat (first | (with_reducible first | exact HB.out | apply bA_ | apply bN_ | apply b1_ | refine bS_ ?_ GE170.out | refine bS_ ?_ GE176.out) | exact HB.out)) hb); clear HO_2; clear BK170; clear BK176; clear HB; have HO_2 := n0_; have BK170 := n1_; have BK176 := n2_; have HB := n3_; clear n0_ n1_ n2_ n3_))
             go_roundg k2
             case measure => have := HK1.out; have := HK2.out; omega
             case rel => exact ⟨(x2_2), (wrap64 (x20_2 + 1)), (by first | rfl | (simp; done) | (simp [*]; done) | (simp [wrap64]; done) | (congr 1; rw [Bool.eq_iff_iff]; simp; done)), H', ⟨by have := HK1.out; have := HK2.out; omega⟩, ⟨by (with_reducible repeat (first | apply Kd.R_alloc | apply Kd.R_drewN | apply Kd.R_drew)); exact HO_2.out⟩, ⟨by (with_reducible repeat (first | refine kN_ ?_ _ | refine kD_ ?_ | refine kA_ ?_ _)); exact BK170.out⟩, ⟨by repeat (first | (with_reducible first | exact HB.out | apply bA_ | apply bN_ | apply b1_ | refine bS_ ?_ GE170.out | refine bS_ ?_ GE176.out) | exact HB.out)⟩⟩
            rw [if_neg c14] at H
            exact absurd H (by simp)
           rw [if_neg c13] at H
           exact absurd H (by simp)
          rw [if_neg c12] at H
          have c12b0 : decide (x20_2 < (y171.length : Int)) = false := decide_eq_false c12
          clear c12
          have H' := As_.mk H
          clear H
          go_wp2
          go_roundg k2
          case measure => have := HK1.out; have := HK2.out; omega
          case rel => exact ⟨(x2_2), (wrap64 (x10_1 + 1)), (by first | rfl | (simp; done) | (simp [*]; done) | (simp [wrap64]; done) | (congr 1; rw [Bool.eq_iff_iff]; simp; done)), H', ⟨by have := HK1.out; have := HK2.out; omega⟩, ⟨by (with_reducible repeat (first | apply Kd.R_alloc | apply Kd.R_drewN | apply Kd.R_drew)); exact HO_2.out⟩, ⟨by repeat (first | (with_reducible first | exact HB.out | apply bA_ | apply bN_ | apply b1_ | refine bS_ ?_ GE170.out) | exact HB.out)⟩⟩
       rw [if_neg c7] at H
       exact absurd H (by simp)
      rw [if_neg c6] at H
      exact absurd H (by simp)
     rw [if_neg c4] at H
     exact absurd H (by simp)
    rw [if_neg c3] at H
    exact absurd H (by simp)
   rw [if_neg c2] at H
   have c2b0 : decide (x10_1 < (l0.length : Int)) = false := decide_eq_false c2
   clear c2
   obtain rfl := Option.some.inj H
   go_wp2
   go_ret
   exact ⟨_, by first | rfl | (simp [eN_, eS_] <;> rfl) | (simp [*, eN_, eS_] <;> rfl), by (with_reducible repeat (first | apply Kd.R_alloc | apply Kd.R_drewN | apply Kd.R_drew)); exact HO_2.out, by repeat (first | (with_reducible first | exact HB.out | apply bA_ | apply bN_ | apply b1_) | exact HB.out)⟩
end Go.Proofs.Ytibfkkjkahpobaa.PDag
end
section
-- the texts that this claim needs, out of this session's and its print's (wip/shrink.py)
namespace Go.Proofs.Ytibfkkjkahpobaa.PDag
open Go.RowKit Go.Proofs.YtibfkkjkahpobaaW.PrintWords Go.Proofs.YtibfkkjkahpobaaW.PrintLast Go.Proofs.YtibfkkjkahpobaaW.PrintMore
attribute [local go_sem] max2_int min2_int max_two min_two max_three min_three max_four min_four   -- for this text's walks alone
set_option linter.unusedVariables false
set_option linter.unusedSimpArgs false
end Go.Proofs.Ytibfkkjkahpobaa.PDag
end
section
-- the texts that this claim needs, out of this session's and its print's (wip/shrink.py)
namespace Go.Proofs.Ytibfkkjkahpobaa.PDag
open Go.RowKit Go.Proofs.YtibfkkjkahpobaaW.PrintWords Go.Proofs.YtibfkkjkahpobaaW.PrintLast Go.Proofs.YtibfkkjkahpobaaW.PrintMore
attribute [local go_sem] max2_int min2_int max_two min_two max_three min_three max_four min_four   -- for this text's walks alone
set_option linter.unusedVariables false
set_option linter.unusedSimpArgs false
end Go.Proofs.Ytibfkkjkahpobaa.PDag
end
section
-- the texts that this claim needs, out of this session's and its print's (wip/shrink.py)
namespace Go.Proofs.Ytibfkkjkahpobaa.PDag
open Go.RowKit Go.Proofs.YtibfkkjkahpobaaW.PrintWords Go.Proofs.YtibfkkjkahpobaaW.PrintLast Go.Proofs.YtibfkkjkahpobaaW.PrintMore
attribute [local go_sem] max2_int min2_int max_two min_two max_three min_three max_four min_four   -- for this text's walks alone
set_option linter.unusedVariables false
set_option linter.unusedSimpArgs false
end Go.Proofs.Ytibfkkjkahpobaa.PDag
end
section
-- the texts that this claim needs, out of this session's and its print's (wip/shrink.py)
namespace Go.Proofs.Ytibfkkjkahpobaa.PDag
open Go.RowKit Go.Proofs.YtibfkkjkahpobaaW.PrintWords Go.Proofs.YtibfkkjkahpobaaW.PrintLast Go.Proofs.YtibfkkjkahpobaaW.PrintMore
set_option linter.unusedVariables false
set_option linter.unusedSimpArgs false
def formOf (op : Int) : Int := rd [0, 1, 1, 1, 1, 1, 1, 1, 1, 1, 1, 1, 1, 1, 1, 1, 1, 1, 1, 1, 1, 2, 3, 4, 3, 5, 6, 7, 8, 9, 9, 8, 0, 0] op
def hasD (f : Int) : Bool := f == 1 || f == 2 || f == 3 || f == 4 || f == 6
def hasA (f : Int) : Bool := f == 1 || f == 2 || f == 3 || f == 5 || f == 7 || f == 9
def hasB (f : Int) : Bool := f == 1 || f == 5
def target (f : Int) : Bool := f == 8 || f == 9
def bitsOf (f : Int) : Int := if f = 3 ∨ f = 5 ∨ f = 9 then 14 else if f = 4 ∨ f = 8 then 18 else 0
theorem upto34 {p : Int → Prop} (h : ∀ n : Fin 34, p (n.val : Int)) (op : Int) (h0 : 0 ≤ op) (h1 : op ≤ 33) : p op := by
  have := h ⟨op.toNat, by omega⟩
  rwa [show ((op.toNat : Nat) : Int) = op from by omega] at this
theorem upto10 {p : Int → Prop} (h : ∀ n : Fin 10, p (n.val : Int)) (f : Int) (h0 : 0 ≤ f) (h1 : f ≤ 9) : p f := by
  have := h ⟨f.toNat, by omega⟩
  rwa [show ((f.toNat : Nat) : Int) = f from by omega] at this
theorem formOf_range (op : Int) : 0 ≤ op → op ≤ 33 → 0 ≤ formOf op ∧ formOf op ≤ 9 := upto34 (p := fun op => 0 ≤ formOf op ∧ formOf op ≤ 9) (by decide) op
theorem shape_eq {k : Nat} (hk : 10 ≤ k) (op : Int) (h0 : 0 ≤ op) (h1 : op ≤ 33) : isa_Shape.f k op = some (formOf op) :=
  at_rounds (isa_Shape.mono op) hk (upto34 (p := fun op => isa_Shape.f 10 op = some (formOf op)) (by decide) op h0 h1)
theorem isa_hasD (f : Int) (h0 : 0 ≤ f) (h1 : f ≤ 9) : isa_HasD.f f = some (hasD f) := upto10 (p := fun f => isa_HasD.f f = some (hasD f)) (by decide) f h0 h1
theorem isa_hasA {k : Nat} (hk : 10 ≤ k) (f : Int) (h0 : 0 ≤ f) (h1 : f ≤ 9) : isa_HasA.f k f = some (hasA f) :=
  at_rounds (isa_HasA.mono f) hk (upto10 (p := fun f => isa_HasA.f 10 f = some (hasA f)) (by decide) f h0 h1)
theorem isa_hasB (f : Int) (h0 : 0 ≤ f) (h1 : f ≤ 9) : isa_HasB.f f = some (hasB f) := upto10 (p := fun f => isa_HasB.f f = some (hasB f)) (by decide) f h0 h1
theorem isa_target (f : Int) (h0 : 0 ≤ f) (h1 : f ≤ 9) : isa_Target.f f = some (target f) := upto10 (p := fun f => isa_Target.f f = some (target f)) (by decide) f h0 h1
theorem isa_bits {k : Nat} (hk : 10 ≤ k) (f : Int) (h0 : 0 ≤ f) (h1 : f ≤ 9) : isa_Bits.f k f = some (bitsOf f) :=
  at_rounds (isa_Bits.mono f) hk (upto10 (p := fun f => isa_Bits.f 10 f = some (bitsOf f)) (by decide) f h0 h1)
def regOk (has : Bool) (n : Int) : Bool := if has = true then decide (0 ≤ n ∧ n ≤ 15) else n == 0
def fit14 (n : Int) : Bool := decide (-8192 ≤ n ∧ n < 8192)
def fit18 (n : Int) : Bool := decide (-131072 ≤ n ∧ n < 131072)
theorem isa_reg_eq (has : Bool) (n : Int) : isa_reg.f has n = some (regOk has n) := by
  unfold isa_reg.f regOk
  cases has with
  | true =>
    by_cases h : n = 0
    · subst h; rfl
    · rw [if_neg h]
      by_cases h2 : n > 0
      · simp only [if_pos h2, if_true, Option.some.injEq]
        by_cases h3 : n < 16 <;> simp [h3] <;> omega
      · simp only [if_neg h2, if_true, Option.some.injEq]
        symm; rw [decide_eq_false_iff_not]; omega
  | false =>
    by_cases h : n = 0
    · subst h; rfl
    · simp [h]
theorem within14 (n : Int) : word_Within.f n 14 = some (fit14 n) := by
  unfold word_Within.f fit14
  rw [if_pos (by decide +kernel), show shl .i64 (-1) (wrap64 (14 - 1)) = -8192 from by decide +kernel, show shl .i64 1 (wrap64 (14 - 1)) = 8192 from by decide +kernel]
  by_cases h : n ≥ -8192
  · rw [if_pos h]; by_cases h2 : n < 8192 <;> simp [h2]; omega
  · rw [if_neg h]; congr 1; symm; rw [decide_eq_false_iff_not]; omega
theorem within18 (n : Int) : word_Within.f n 18 = some (fit18 n) := by
  unfold word_Within.f fit18
  rw [if_pos (by decide +kernel), show shl .i64 (-1) (wrap64 (18 - 1)) = -131072 from by decide +kernel, show shl .i64 1 (wrap64 (18 - 1)) = 131072 from by decide +kernel]
  by_cases h : n ≥ -131072
  · rw [if_pos h]; by_cases h2 : n < 131072 <;> simp [h2]; omega
  · rw [if_neg h]; congr 1; symm; rw [decide_eq_false_iff_not]; omega
def letter (c : Int) : Bool := c == 95 || (decide (97 ≤ c) && decide (c ≤ 122))
def digit (c : Int) : Bool := decide (48 ≤ c) && decide (c ≤ 57)
def nameFrom (s : ByteArray) (i : Int) : Nat → Bool
  | 0 => true
  | d + 1 => (letter (bt s i) || digit (bt s i)) && nameFrom s (i + 1) d
def nameOk (s : ByteArray) : Bool := decide (0 < s.size) && (decide (s.size ≤ 12) && (letter (bt s 0) && nameFrom s 0 s.size))
theorem letter_eq (c : Int) : isa_letter.f c = some (letter c) := by
  unfold isa_letter.f letter
  by_cases h : c = 95
  · simp [h]
  · by_cases h2 : c ≥ 97 <;> simp [h, h2]
theorem wrapI {i : Int} (h0 : 0 ≤ i) (h : i ≤ 4611686018427387904) : wrap64 (i + 1) = i + 1 := by
  unfold wrap64; omega
theorem isa_name_loop (s : ByteArray) (hs : s.size ≤ 12) : ∀ (d : Nat) (k : Nat) (i : Int), 0 ≤ i → i + d = s.size → 2 * d + 1 ≤ k → isa_Name2.l0 k s s.size i = some (nameFrom s i d)
  | 0, k, i, h0, h1, hk => by
    obtain ⟨m, rfl⟩ : ∃ m, k = m + 1 := ⟨k - 1, by omega⟩
    simp only [isa_Name2.l0, nameFrom]; rw [if_neg (by omega)]
  | d + 1, k, i, h0, h1, hk => by
    obtain ⟨m, rfl⟩ : ∃ m, k = m + 2 := ⟨k - 2, by omega⟩
    simp only [isa_Name2.l0, nameFrom]; rw [if_pos (by omega), if_pos h0, if_pos (by omega), letter_eq]
    simp only [Option.bind_some]
    have hw : wrap64 (i + 1) = i + 1 := wrapI h0 (by omega)
    have ih := isa_name_loop s hs d m (i + 1) (by omega) (by omega) (by omega)
    cases hl : letter (bt s i) with
    | true => simp only [if_true, isa_Name2.j2, Bool.false_eq_true, if_false, hw, ih, Bool.true_or, Bool.true_and]
    | false =>
      simp only [Bool.false_eq_true, if_false, Bool.false_or]
      by_cases h3 : bt s i < 48
      · rw [if_pos h3]; simp only [isa_Name2.j2, if_true]; congr 1; simp [digit]; omega
      · rw [if_neg h3]
        by_cases h4 : bt s i > 57
        · simp only [isa_Name2.j2, decide_eq_true h4, if_true]; congr 1; simp [digit]; omega
        · simp only [isa_Name2.j2, decide_eq_false h4, Bool.false_eq_true, if_false, hw, ih]
          have : digit (bt s i) = true := by simp [digit]; omega
          rw [this, Bool.true_and]
theorem toList_nil (s : ByteArray) : s.toList = [] ↔ s.size = 0 := by
  rw [ByteArray.toList_eq, Lib.size_eq]
  exact List.length_eq_zero_iff.symm
theorem isa_name {k : Nat} (hk : 40 ≤ k) (s : ByteArray) : isa_Name2.f k s = some (nameOk s) := by
  obtain ⟨m, rfl⟩ : ∃ m, k = m + 1 := ⟨k - 1, by omega⟩
  unfold isa_Name2.f nameOk
  by_cases h : s.toList = []
  · rw [if_pos h]
    have h0 : s.size = 0 := (toList_nil s).1 h
    simp [isa_Name2.j0, h0]
  · rw [if_neg h]
    have h0 : 0 < s.size := by
      have : s.size ≠ 0 := fun h1 => h ((toList_nil s).2 h1)
      omega
    by_cases h12 : (s.size : Int) > 12
    · rw [if_pos h12]
      have : ¬ s.size ≤ 12 := by omega
      simp [isa_Name2.j0, this]
    · rw [if_neg h12, if_pos (by omega), letter_eq]
      simp only [Option.bind_some]
      have h12' : s.size ≤ 12 := by omega
      cases hl : letter (bt s 0) with
      | false => simp [isa_Name2.j0]
      | true =>
        simp only [isa_Name2.j0, Bool.not_true, Bool.false_eq_true, if_false]
        rw [isa_name_loop s h12' s.size m 0 (by omega) (by omega) (by omega)]
        simp [h0, h12']
def immOk (f imm : Int) (s : ByteArray) : Bool :=
  if target f = true then (if s.toList = [] then decide (0 ≤ imm ∧ imm ≤ 1023) else (imm == 0 && nameOk s))
  else if s.toList = [] then (if f = 3 ∨ f = 5 then fit14 imm else if f = 4 then fit18 imm else imm == 0)
  else (if f = 4 then (nameOk s && fit18 imm) else false)
def insOk (op d a b imm : Int) (s : ByteArray) : Bool :=
  decide (0 ≤ op ∧ op ≤ 33) && (regOk (hasD (formOf op)) d && (regOk (hasA (formOf op)) a && (regOk (hasB (formOf op)) b && immOk (formOf op) imm s)))
theorem isa_is (op : Int) : isa_Is.f op = some (decide (0 ≤ op ∧ op ≤ 33)) := by
  unfold isa_Is.f
  by_cases h : op ≥ 0
  · rw [if_pos h]; congr 1; by_cases h2 : op ≤ 33 <;> simp [h2] <;> omega
  · rw [if_neg h]; congr 1; symm; rw [decide_eq_false_iff_not]; omega
theorem form_cases (f : Int) (h0 : 0 ≤ f) (h1 : f ≤ 9) : f = 0 ∨ f = 1 ∨ f = 2 ∨ f = 3 ∨ f = 4 ∨ f = 5 ∨ f = 6 ∨ f = 7 ∨ f = 8 ∨ f = 9 := by omega
theorem isa_imm_eq {k : Nat} (hk : 50 ≤ k) (op d a b imm : Int) (s : ByteArray) (f : Int) (h0 : 0 ≤ f) (h1 : f ≤ 9) : isa_imm.f k op d a b imm s f = some (immOk f imm s) := by
  obtain ⟨m, rfl⟩ : ∃ m, k = m + 3 := ⟨k - 3, by omega⟩
  have hn := isa_name (k := m + 2) (by omega) s
  have hb := isa_bits (k := m) (by omega) f h0 h1
  unfold isa_imm.f immOk
  rw [isa_target f h0 h1]
  simp only [Option.bind_some]
  by_cases hs : s.toList = []
  · rcases form_cases f h0 h1 with rfl | rfl | rfl | rfl | rfl | rfl | rfl | rfl | rfl | rfl <;>
      simp [isa_imm.j0, isa_imm.j1, isa_imm.j2, target, hs, isa_Target.f, hb, bitsOf, within14, within18]
    all_goals
      by_cases h : 0 ≤ imm <;> simp [h] <;> omega
  · have hne : (s.toList != []) = true := by simpa using hs
    rcases form_cases f h0 h1 with rfl | rfl | rfl | rfl | rfl | rfl | rfl | rfl | rfl | rfl <;>
      simp [isa_imm.j0, isa_imm.j1, isa_imm.j2, target, hs, hn, isa_Target.f, hb, bitsOf, within14, within18]
    · cases nameOk s <;> simp
    · by_cases h : imm = 0 <;> simp [h]
    · by_cases h : imm = 0 <;> simp [h]
theorem isa_ins_eq {k : Nat} (hk : 50 ≤ k) (op d a b imm : Int) (s : ByteArray) : isa_IsIns.f k op d a b imm s = some (insOk op d a b imm s) := by
  unfold isa_IsIns.f insOk
  rw [isa_is]
  simp only [Option.bind_some]
  by_cases h : 0 ≤ op ∧ op ≤ 33
  · obtain ⟨f0, f1⟩ := formOf_range op h.1 h.2
    rw [if_pos (by simp [h]), shape_eq (by omega) op h.1 h.2]
    simp only [Option.bind_some, isa_hasD _ f0 f1, isa_hasA (show 10 ≤ k by omega) _ f0 f1, isa_hasB _ f0 f1, isa_reg_eq, isa_imm_eq hk op d a b imm s _ f0 f1]
    cases regOk (hasD (formOf op)) d <;> cases regOk (hasA (formOf op)) a <;> cases regOk (hasB (formOf op)) b <;> simp [h]
  · simp [h]
end Go.Proofs.Ytibfkkjkahpobaa.PDag
end
section
-- the texts that this claim needs, out of this session's and its print's (wip/shrink.py)
namespace Go.Proofs.Ytibfkkjkahpobaa.PDag
open Go.RowKit Go.Proofs.YtibfkkjkahpobaaW.PrintWords Go.Proofs.YtibfkkjkahpobaaW.PrintLast Go.Proofs.YtibfkkjkahpobaaW.PrintMore
attribute [local go_sem] max2_int min2_int max_two min_two max_three min_three max_four min_four   -- for this text's walks alone
set_option linter.unusedVariables false
set_option linter.unusedSimpArgs false
end Go.Proofs.Ytibfkkjkahpobaa.PDag
end
section
-- the texts that this claim needs, out of this session's and its print's (wip/shrink.py)
namespace Go.Proofs.Ytibfkkjkahpobaa.PDag
open Go.RowKit Go.Proofs.YtibfkkjkahpobaaW.PrintWords Go.Proofs.YtibfkkjkahpobaaW.PrintLast Go.Proofs.YtibfkkjkahpobaaW.PrintMore
attribute [local go_sem] max2_int min2_int max_two min_two max_three min_three max_four min_four   -- for this text's walks alone
set_option linter.unusedVariables false
set_option linter.unusedSimpArgs false
end Go.Proofs.Ytibfkkjkahpobaa.PDag
end
section
-- the texts that this claim needs, out of this session's and its print's (wip/shrink.py)
namespace Go.Proofs.Ytibfkkjkahpobaa.PDag
open Go.RowKit Go.Proofs.YtibfkkjkahpobaaW.PrintWords Go.Proofs.YtibfkkjkahpobaaW.PrintLast Go.Proofs.YtibfkkjkahpobaaW.PrintMore
attribute [local go_sem] max2_int min2_int max_two min_two max_three min_three max_four min_four   -- for this text's walks alone
set_option linter.unusedVariables false
set_option linter.unusedSimpArgs false
end Go.Proofs.Ytibfkkjkahpobaa.PDag
end
