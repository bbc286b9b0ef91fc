-- the texts that this claim needs, out of this session's and its print's (wip/shrink.py)
import Derived.Test.YtibfkkjkahpobaaPDagx0L
import Derived.Test.YtibfkkjkahpobaaPDagx2L
import Derived.Test.YtibfkkjkahpobaaPDagx7L
import Derived.Test.YtibfkkjkahpobaaPDagx9L
import Derived.Test.YtibfkkjkahpobaaHighL
namespace Go.Proofs.Ytibfkkjkahpobaa.PDag
open Go.RowKit Go.Proofs.YtibfkkjkahpobaaW.PrintWords Go.Proofs.YtibfkkjkahpobaaW.PrintLast Go.Proofs.YtibfkkjkahpobaaW.PrintMore
attribute [local go_sem] max2_int min2_int max_two min_two max_three min_three max_four min_four   -- for this text's walks alone
set_option linter.unusedVariables false
set_option linter.unusedSimpArgs false
attribute [local go_sem high] eqA51
mutual
def dag_Edges.l0 : Nat → List (S24) → List (S51) → List (S24) → Int → Int → Option ((List (S51)))
  | 0, _, _, _, _, _ => none
  | k + 1, x0, x2, x8, x9, x10 => if x10 < x9 then (if 0 ≤ x10 then (if x10 < (x8.length : Int) then (if 0 ≤ (wrap64 (x10 + 1)) then (if (wrap64 (x10 + 1)) ≤ (x0.length : Int) then ((some (x0.drop ((wrap64 (x10 + 1)) : Int).toNat : List (S24))).bind fun y177 => (dag_Edges.l1 k x0 x2 x10 x8 x9 x10 y177 (y177.length : Int) 0 ((q24 x8 x10).f0) ((q24 x8 x10).f1) ((q24 x8 x10).f2) ((q24 x8 x10).f3) ((q24 x8 x10).f4) ((q24 x8 x10).f5))) else (none)) else (none)) else (none)) else (none)) else (some x2)
def dag_Edges.l1 : Nat → List (S24) → List (S51) → Int → List (S24) → Int → Int → List (S24) → Int → Int → Int → Int → Int → Int → Int → ByteArray → Option ((List (S51)))
  | 0, _, _, _, _, _, _, _, _, _, _, _, _, _, _, _ => none
  | k + 1, x0, x2, x3, x8, x9, x10, x18, x19, x20, x177a, x177b, x177c, x177d, x177e, x177f => if x20 < x19 then (if 0 ≤ x20 then (if x20 < (x18.length : Int) then ((dag_dist.f k x177a x177b x177c x177d x177e x177f ((q24 x18 x20).f0) ((q24 x18 x20).f1) ((q24 x18 x20).f2) ((q24 x18 x20).f3) ((q24 x18 x20).f4) ((q24 x18 x20).f5)).bind fun t183 => (if t183 ≥ 0 then (if x2.length < 5864062014805 then (dag_Edges.l1 k x0 (x2 ++ [(⟨x3, wrap64 ((wrap64 (x3 + 1)) + x20), t183⟩ : S51)]) x3 x8 x9 x10 x18 x19 (wrap64 (x20 + 1)) x177a x177b x177c x177d x177e x177f) else (none)) else (dag_Edges.l1 k x0 x2 x3 x8 x9 x10 x18 x19 (wrap64 (x20 + 1)) x177a x177b x177c x177d x177e x177f))) else (none)) else (none)) else (dag_Edges.l0 k x0 x2 x8 x9 (wrap64 (x10 + 1)))
end
def dag_Edges.f (k : Nat) (l0 : List (S24)) : Option ((List (S51))) := dag_Edges.l0 k l0 ([] : List (S51)) l0 (l0.length : Int) 0
theorem dag_Edges.mono_l : ∀ k, (∀ y0 y1 y2 y3 y4, LeO (dag_Edges.l0 k y0 y1 y2 y3 y4) (dag_Edges.l0 (k + 1) y0 y1 y2 y3 y4)) ∧ (∀ y0 y1 y2 y3 y4 y5 y6 y7 y8 y9 y10 y11 y12 y13 y14, LeO (dag_Edges.l1 k y0 y1 y2 y3 y4 y5 y6 y7 y8 y9 y10 y11 y12 y13 y14) (dag_Edges.l1 (k + 1) y0 y1 y2 y3 y4 y5 y6 y7 y8 y9 y10 y11 y12 y13 y14))
  | 0 => ⟨fun _ _ _ _ _ r h => by simp [dag_Edges.l0] at h, fun _ _ _ _ _ _ _ _ _ _ _ _ _ _ _ r h => by simp [dag_Edges.l1] at h⟩
  | k + 1 => by
    obtain ⟨ih0, ih1⟩ := dag_Edges.mono_l k
    refine ⟨?_, ?_⟩
    · intro y0 y1 y2 y3 y4
      unfold dag_Edges.l0
      repeat' first
      | (with_reducible exact ih0 _ _ _ _ _)
      | (with_reducible exact ih1 _ _ _ _ _ _ _ _ _ _ _ _ _ _ _)
      | (with_reducible exact dag_dist.mono _ _ _ _ _ _ _ _ _ _ _ _ _)
      | (with_reducible exact LeO.refl _)
      | (with_reducible exact LeO.none _)
      | (with_reducible refine LeO.ite ?_ ?_)
      | (with_reducible refine LeO.bind ?_ (fun _ => ?_))
      | exact LeO.none _
      | refine LeO.ite ?_ ?_
      | refine LeO.bind ?_ (fun _ => ?_)
    · intro y0 y1 y2 y3 y4 y5 y6 y7 y8 y9 y10 y11 y12 y13 y14
      unfold dag_Edges.l1
      repeat' first
      | (with_reducible exact ih0 _ _ _ _ _)
      | (with_reducible exact ih1 _ _ _ _ _ _ _ _ _ _ _ _ _ _ _)
      | (with_reducible exact dag_dist.mono _ _ _ _ _ _ _ _ _ _ _ _ _)
      | (with_reducible exact LeO.refl _)
      | (with_reducible exact LeO.none _)
      | (with_reducible refine LeO.ite ?_ ?_)
      | (with_reducible refine LeO.bind ?_ (fun _ => ?_))
      | exact LeO.none _
      | refine LeO.ite ?_ ?_
      | refine LeO.bind ?_ (fun _ => ?_)
theorem dag_Edges.mono : ∀ a0 k, LeO (dag_Edges.f k a0) (dag_Edges.f (k + 1) a0) := by
 intro a0 k
 obtain ⟨ih0, ih1⟩ := dag_Edges.mono_l k
 unfold dag_Edges.f
 repeat' first
  | (with_reducible exact ih0 _ _ _ _ _)
  | (with_reducible exact ih1 _ _ _ _ _ _ _ _ _ _ _ _ _ _ _)
  | (with_reducible exact dag_dist.mono _ _ _ _ _ _ _ _ _ _ _ _ _)
  | (with_reducible exact LeO.refl _)
  | (with_reducible exact LeO.none _)
  | (with_reducible refine LeO.ite ?_ ?_)
  | (with_reducible refine LeO.bind ?_ (fun _ => ?_))
  | exact LeO.none _
  | refine LeO.ite ?_ ?_
  | refine LeO.bind ?_ (fun _ => ?_)
set_option maxHeartbeats 8000000 in
set_option maxRecDepth 100000 in
theorem dag_Edges.calls (k : Nat) (A0 : Option Addr) (c0 : Nat) (l0 : List (S24)) (r : List (S51)) (w : World) (hr0 : Kd.C k24 w A0 l0.length l0) (hc0 : l0.length ≤ c0) (h : dag_Edges.f k l0 = some r) :
    Calls Try.prog 56 #[.slice A0 l0.length c0] w fun e w' => ∃ v0_ : Value, e = .returned (v0_) ∧ Kd.R k51 51 w' w.heap.size (fun _ => True) v0_ r ∧ Below w.heap.size w w' := by
 have hu24 := Try.underlying24
 have hu51 := Try.underlying51
 have HR0 := As_.mk hr0
 have HC0 := As_.mk hc0
 clear hr0 hc0
 have HB := As_.mk (Below.refl w.heap.size w)
 have H : (dag_Edges.l0 k l0 ([] : List (S51)) l0 (l0.length : Int) 0) = some r := h
 clear h
 have H' := As_.mk H
 clear H
 go_enter Try.func56, Try.ntmps56
 go_wp2
 go_loopg [2, 10] k (fun kq v2 v10 w' => ∃ (x2_1 : List (S51)) (x10_1 : Int), v10 = .int .i64 x10_1 ∧ As_ (dag_Edges.l0 kq l0 x2_1 l0 (l0.length : Int) x10_1 = some r) ∧ As_ (kq ≤ k) ∧ As_ (Kd.R k51 51 w' w.heap.size (fun _ => True) v2 x2_1) ∧ As_ (Below w.heap.size w w'))
 case atStart => exact ⟨(([] : List (S51))), (0), (by first | rfl | (simp; done) | (simp [*]; done) | (simp [wrap64]; done) | (congr 1; rw [Bool.eq_iff_iff]; simp; done)), H', ⟨Nat.le_refl _⟩, ⟨by first | exact Kd.R_nil _ _ _ _ _ | exact Kd.N_nil _ _ _ _ _ | exact Kd.V_nil _ _ _ _ _ | exact Kd.Q_nil _ _ _ _ _ | exact Kd.S_nil _ _ _ _ _⟩, ⟨by repeat (first | (with_reducible first | exact HB.out | apply bA_ | apply bN_ | apply b1_) | exact HB.out)⟩⟩
 case round =>
  clear H'
  obtain ⟨x2_1, x10_1, rfl, HA, HK1, HO_2, HB⟩ := hrel
  cases gk with
  | zero => exact absurd HA.out (by simp [dag_Edges.l0])
  | succ k1 =>
   have H := HA.out
   clear HA
   simp only [dag_Edges.l0] at H
   by_cases c2 : x10_1 < (l0.length : Int)
   ·rw [if_pos c2] at H
    have c2b0 : decide (x10_1 < (l0.length : Int)) = true := decide_eq_true c2
    clear c2
    by_cases c3 : 0 ≤ x10_1
    ·rw [if_pos c3] at H
     have c3b0 : decide (0 ≤ x10_1) = true := decide_eq_true c3
     clear c3
     by_cases c4 : x10_1 < (l0.length : Int)
     ·rw [if_pos c4] at H
      have c4b0 : decide (x10_1 < (l0.length : Int)) = true := decide_eq_true c4
      clear c4
      obtain ⟨ji5, hji5⟩ : ∃ j_ : Int, (wrap64 (x10_1 + 1)) = j_ := ⟨_, rfl⟩
      replace H : (if 0 ≤ (ji5) then (if (ji5) ≤ (l0.length : Int) then ((some (l0.drop ((ji5) : Int).toNat : List (S24))).bind fun y177 => (dag_Edges.l1 k1 l0 x2_1 x10_1 l0 (l0.length : Int) x10_1 y177 (y177.length : Int) 0 ((q24 l0 x10_1).f0) ((q24 l0 x10_1).f1) ((q24 l0 x10_1).f2) ((q24 l0 x10_1).f3) ((q24 l0 x10_1).f4) ((q24 l0 x10_1).f5))) else (none)) else (none)) = some r := by first | (rw [hji5] at H; exact H) | (simp only [hji5] at H ⊢; exact H)
      have hji5w : (IntKind.i64.wrap (x10_1 + 1)) = ji5 := (i64_w _).trans hji5
      by_cases c6 : 0 ≤ (ji5)
      ·rw [if_pos c6] at H
       have c6b0 := eq_true c6
       have c6b1 : decide (0 ≤ (ji5)) = true := decide_eq_true c6
       clear c6
       by_cases c7 : (ji5) ≤ (l0.length : Int)
       ·rw [if_pos c7] at H
        have c7b0 := eq_true c7
        have c7b1 : decide ((ji5) ≤ (l0.length : Int)) = true := decide_eq_true c7
        clear c7
        obtain ⟨y177, hy177⟩ : ∃ y_ : List (S24), y_ = (l0.drop ((ji5) : Int).toNat) := ⟨_, rfl⟩
        replace H : (dag_Edges.l1 k1 l0 x2_1 x10_1 l0 (l0.length : Int) x10_1 y177 (y177.length : Int) 0 ((q24 l0 x10_1).f0) ((q24 l0 x10_1).f1) ((q24 l0 x10_1).f2) ((q24 l0 x10_1).f3) ((q24 l0 x10_1).f4) ((q24 l0 x10_1).f5)) = some r := by first | (rw [hy177]; with_reducible exact H) | (have H2_ := (Option.bind_some _ _).symm.trans H; rw [hy177]; with_reducible exact H2_) | (have H2_ := (Option.bind_some _ _).symm.trans H; with_reducible exact H2_) | with_reducible exact H | (rw [hy177]; exact H) | exact H
        have Ny177 := As_.mk hy177
        clear hy177
        have H' := As_.mk H
        clear H
        have p175 : 0 ≤ (x10_1 : Int) := of_decide_eq_true (by assumption)
        have q175 : x10_1 < (l0.length : Int) := of_decide_eq_true (by assumption)
        obtain ⟨ad175, e175, hx175_0, hx175_1, hx175_2, hx175_3, hx175_4, hx175_5⟩ := at_T24 HR0.out x10_1 p175 q175
        cases e175
        replace hx175_0 := (HB.out.cell (World.block_lt_of_cell? w _ hx175_0)).trans hx175_0
        replace hx175_1 := (HB.out.cell (World.block_lt_of_cell? w _ hx175_1)).trans hx175_1
        replace hx175_2 := (HB.out.cell (World.block_lt_of_cell? w _ hx175_2)).trans hx175_2
        replace hx175_3 := (HB.out.cell (World.block_lt_of_cell? w _ hx175_3)).trans hx175_3
        replace hx175_4 := (HB.out.cell (World.block_lt_of_cell? w _ hx175_4)).trans hx175_4
        replace hx175_5 := (HB.out.cell (World.block_lt_of_cell? w _ hx175_5)).trans hx175_5
        replace p175 := eq_true p175
        replace q175 := eq_true q175
        go_wp2_with (first | ((with_reducible refine gate_dst (N := 4) rfl ?_); refine box_event ?hg (N := 4) ?hd (cs := #[.int .i64 0, .int .i64 0, .int .i64 0, .int .i64 0, .int .i64 0, .string (⟨#[]⟩ : ByteArray)]) (t := 24) ?hr ?_; (case hd => rfl); (case hg => rfl); (case hr => first | (go_simp; done) | (go_simp; rfl)); intro gb176 hg w8 hbox hb; have n0_ := As_.mk (Kd.R_below (by (with_reducible repeat (first | apply Kd.R_alloc | apply Kd.R_drewN | apply Kd.R_drew)); exact HO_2.out) hb); have n1_ := As_.mk (bT_ (by repeat (first | (with_reducible first | exact HB.out | apply bA_ | apply bN_ | apply b1_) | exact HB.out)) hb); have n2_ := As_.mk (hbox); have n3_ := As_.mk ((by rw [hg]; exact (bY_ (by repeat (first | (with_reducible first | exact HB.out | apply bA_ | apply bN_ | apply b1_) | exact HB.out))) : w.heap.size ≤ gb176)); have n4_ := As_.mk ((by rw [hg]; exact (bY_ (by repeat (first | (with_reducible first | exact HB.out | apply bA_ | apply bN_ | apply b1_) | exact HB.out))) : w.heap.size ≤ gb176)); clear HO_2; clear HB; have HO_2 := n0_; have HB := n1_; have BK176 := n2_; have GW176 := n3_; have GE176 := n4_; clear n0_ n1_ n2_ n3_ n4_; clear hb hbox hg; have hcz9_0 : w8.cell? ⟨gb176, 0, none⟩ = some (.int .i64 0) := (bC_ BK176.out 0).trans rfl; have hcz9_1 : w8.cell? ⟨gb176, 1, none⟩ = some (.int .i64 0) := (bC_ BK176.out 1).trans rfl; have hcz9_2 : w8.cell? ⟨gb176, 2, none⟩ = some (.int .i64 0) := (bC_ BK176.out 2).trans rfl; have hcz9_3 : w8.cell? ⟨gb176, 3, none⟩ = some (.int .i64 0) := (bC_ BK176.out 3).trans rfl; have hcz9_4 : w8.cell? ⟨gb176, 4, none⟩ = some (.int .i64 0) := (bC_ BK176.out 4).trans rfl; have hcz9_5 : w8.cell? ⟨gb176, 5, none⟩ = some (.string (⟨#[]⟩ : ByteArray)) := (bC_ BK176.out 5).trans rfl; have hfz9_0 := bZ_ BK176.out 0; have hfz9_1 := bZ_ BK176.out 1; have hfz9_2 := bZ_ BK176.out 2; have hfz9_3 := bZ_ BK176.out 3; have hfz9_4 := bZ_ BK176.out 4; have hfz9_5 := bZ_ BK176.out 5) | ((with_reducible refine gate_store (t := 24) (p := 4) rfl ?_); refine store_event (t := 24) (p := 4) (v := ?vo_w10) (w1 := ((((((w8.setCell ⟨gb176, 0, none⟩ (.int .i64 ((q24 l0 x10_1).f0))).setCell ⟨gb176, 1, none⟩ (.int .i64 ((q24 l0 x10_1).f1))).setCell ⟨gb176, 2, none⟩ (.int .i64 ((q24 l0 x10_1).f2))).setCell ⟨gb176, 3, none⟩ (.int .i64 ((q24 l0 x10_1).f3))).setCell ⟨gb176, 4, none⟩ (.int .i64 ((q24 l0 x10_1).f4))).setCell ⟨gb176, 5, none⟩ (.string ((q24 l0 x10_1).f5)))) ?hg ?ho ?hn ?hr ?_; (case ho => rfl); (case hg => rfl); (case hn => rfl); (case hr => first | (go_simp; done) | (go_simp; rfl)); intro w10 hw; have n0_ : As_ (Kd.R k51 51 w10 w.heap.size (fun _ => True) u2 x2_1) := ⟨(by rw [hw]; exact (by (with_reducible repeat (first | apply Kd.R_alloc | apply Kd.R_drewN | apply Kd.R_drew)); exact Kd.R_mono (Kd.R_far (p := ⟨gb176, 5, none⟩) (Kd.R_far (p := ⟨gb176, 4, none⟩) (Kd.R_far (p := ⟨gb176, 3, none⟩) (Kd.R_far (p := ⟨gb176, 2, none⟩) (Kd.R_far (p := ⟨gb176, 1, none⟩) (Kd.R_far (p := ⟨gb176, 0, none⟩) (Kd.R_types HO_2.out BK176.out (by decide)) (fun _ hk => hk.2) (.int .i64 ((q24 l0 x10_1).f0))) (fun _ hk => hk.2) (.int .i64 ((q24 l0 x10_1).f1))) (fun _ hk => hk.2) (.int .i64 ((q24 l0 x10_1).f2))) (fun _ hk => hk.2) (.int .i64 ((q24 l0 x10_1).f3))) (fun _ hk => hk.2) (.int .i64 ((q24 l0 x10_1).f4))) (fun _ hk => hk.2) (.string ((q24 l0 x10_1).f5))) (fun _ hk => trivial)))⟩; have n1_ : As_ (w10.heap[gb176]? = some (.cells #[.int .i64 ((q24 l0 x10_1).f0), .int .i64 ((q24 l0 x10_1).f1), .int .i64 ((q24 l0 x10_1).f2), .int .i64 ((q24 l0 x10_1).f3), .int .i64 ((q24 l0 x10_1).f4), .string ((q24 l0 x10_1).f5)] 24 (0, 0))) := ⟨(by rw [hw]; exact (by (with_reducible repeat (first | refine kN_ ?_ _ | refine kD_ ?_ | refine kA_ ?_ _)); refine blk_put (cs := #[.int .i64 ((q24 l0 x10_1).f0), .int .i64 ((q24 l0 x10_1).f1), .int .i64 ((q24 l0 x10_1).f2), .int .i64 ((q24 l0 x10_1).f3), .int .i64 ((q24 l0 x10_1).f4), .string (⟨#[]⟩ : ByteArray)]) ?_ 5 _ rfl; (with_reducible repeat (first | refine kN_ ?_ _ | refine kD_ ?_ | refine kA_ ?_ _)); refine blk_put (cs := #[.int .i64 ((q24 l0 x10_1).f0), .int .i64 ((q24 l0 x10_1).f1), .int .i64 ((q24 l0 x10_1).f2), .int .i64 ((q24 l0 x10_1).f3), .int .i64 0, .string (⟨#[]⟩ : ByteArray)]) ?_ 4 _ rfl; (with_reducible repeat (first | refine kN_ ?_ _ | refine kD_ ?_ | refine kA_ ?_ _)); refine blk_put (cs := #[.int .i64 ((q24 l0 x10_1).f0), .int .i64 ((q24 l0 x10_1).f1), .int .i64 ((q24 l0 x10_1).f2), .int .i64 0, .int .i64 0, .string (⟨#[]⟩ : ByteArray)]) ?_ 3 _ rfl; (with_reducible repeat (first | refine kN_ ?_ _ | refine kD_ ?_ | refine kA_ ?_ _)); refine blk_put (cs := #[.int .i64 ((q24 l0 x10_1).f0), .int .i64 ((q24 l0 x10_1).f1), .int .i64 0, .int .i64 0, .int .i64 0, .string (⟨#[]⟩ : ByteArray)]) ?_ 2 _ rfl; (with_reducible repeat (first | refine kN_ ?_ _ | refine kD_ ?_ | refine kA_ ?_ _)); refine blk_put (cs := #[.int .i64 ((q24 l0 x10_1).f0), .int .i64 0, .int .i64 0, .int .i64 0, .int .i64 0, .string (⟨#[]⟩ : ByteArray)]) ?_ 1 _ rfl; (with_reducible repeat (first | refine kN_ ?_ _ | refine kD_ ?_ | refine kA_ ?_ _)); refine blk_put (cs := #[.int .i64 0, .int .i64 0, .int .i64 0, .int .i64 0, .int .i64 0, .string (⟨#[]⟩ : ByteArray)]) ?_ 0 _ rfl; (with_reducible repeat (first | refine kN_ ?_ _ | refine kD_ ?_ | refine kA_ ?_ _)); exact BK176.out))⟩; have n2_ : As_ (Below w.heap.size w w10) := ⟨(by rw [hw]; exact (by repeat (first | (with_reducible first | exact HB.out | apply bA_ | apply bN_ | apply b1_ | refine bS_ ?_ GE176.out) | exact HB.out)))⟩; clear hw; clear HO_2; clear BK176; clear HB; have HO_2 := n0_; have BK176 := n1_; have HB := n2_; clear n0_ n1_ n2_; have q11 : ((ji5) : Int) ≤ ((l0.length : Int) : Int) := of_decide_eq_true (by assumption); obtain ⟨i011, hi011, _, hsz11, _⟩ := info_parts info24; have hroom11 : l0.length ≤ c0 := HC0.out; have hC11 : Kd.C k24 _ (some ad175) l0.length l0 := HR0.out; have q011 : (0 : Int) ≤ ((ji5) : Int) := of_decide_eq_true (by assumption); have hcut11 := cut_from (P := Try.prog) 22 24 .i64 Try.underlying22 hi011 6 hsz11 (some ad175) l0.length c0 (ji5) q011 q11; have hr11 := Kd.C_drop (m := ((ji5) : Int).toNat) (c := c0) hC11 (by omega) hroom11; obtain ⟨A11, hA11⟩ : ∃ A1, A1 = (if c0 = ((ji5) : Int).toNat then (some ad175) else ((some ad175) : Option Addr).map (·.add (((ji5) : Int).toNat * 6))) := ⟨_, rfl⟩; obtain ⟨c11, hc11⟩ : ∃ c1, c1 = c0 - ((ji5) : Int).toNat := ⟨_, rfl⟩; have hy11 : y177.length = l0.length - ((ji5) : Int).toNat := (by rw [Ny177.out, List.length_drop] <;> omega); rw [show (l0).drop ((ji5) : Int).toNat = y177 from Ny177.out.symm] at hr11; replace hr11 : Kd.C k24 _ A11 y177.length y177 := (by rw [hA11]; exact hr11); rw [← hy11, ← hA11, ← hc11] at hcut11; have HR180 := As_.mk hr11; have HC180 := As_.mk (show y177.length ≤ c11 from by rw [hy11, hc11]; exact Nat.sub_le_sub_right hroom11 _); clear hr11 hC11 hroom11 hi011 hsz11 hc11; have KY11 := As_.mk hy11; have KA11 := As_.mk hA11; clear hy11 hA11; replace q11 := eq_true q11))
        go_loopg [2, 20] k1 (fun kq v2 v20 w' => ∃ (x2_2 : List (S51)) (x20_2 : Int), v20 = .int .i64 x20_2 ∧ As_ (dag_Edges.l1 kq l0 x2_2 x10_1 l0 (l0.length : Int) x10_1 y177 (y177.length : Int) x20_2 ((q24 l0 x10_1).f0) ((q24 l0 x10_1).f1) ((q24 l0 x10_1).f2) ((q24 l0 x10_1).f3) ((q24 l0 x10_1).f4) ((q24 l0 x10_1).f5) = some r) ∧ As_ (kq ≤ k1) ∧ As_ (Kd.R k51 51 w' w.heap.size (fun _ => True) v2 x2_2) ∧ As_ (w'.heap[gb176]? = some (.cells #[.int .i64 ((q24 l0 x10_1).f0), .int .i64 ((q24 l0 x10_1).f1), .int .i64 ((q24 l0 x10_1).f2), .int .i64 ((q24 l0 x10_1).f3), .int .i64 ((q24 l0 x10_1).f4), .string ((q24 l0 x10_1).f5)] 24 (0, 0))) ∧ As_ (Below w.heap.size w w'))
        case atStart => exact ⟨(x2_1), (0), (by first | rfl | (simp; done) | (simp [*]; done) | (simp [wrap64]; done) | (congr 1; rw [Bool.eq_iff_iff]; simp; done)), H', ⟨Nat.le_refl _⟩, ⟨by (with_reducible repeat (first | apply Kd.R_alloc | apply Kd.R_drewN | apply Kd.R_drew)); exact HO_2.out⟩, ⟨by (with_reducible repeat (first | refine kN_ ?_ _ | refine kD_ ?_ | refine kA_ ?_ _)); exact BK176.out⟩, ⟨by repeat (first | (with_reducible first | exact HB.out | apply bA_ | apply bN_ | apply b1_ | refine bS_ ?_ GE176.out) | exact HB.out)⟩⟩
        case round =>
         clear H'
         obtain ⟨x2_2, x20_2, rfl, HA, HK2, HO_2, BK176, HB⟩ := hrel
         cases gk with
         | zero => exact absurd HA.out (by simp [dag_Edges.l1])
         | succ k2 =>
          have H := HA.out
          clear HA
          simp only [dag_Edges.l1] at H
          by_cases c12 : x20_2 < (y177.length : Int)
          ·rw [if_pos c12] at H
           have c12b0 : decide (x20_2 < (y177.length : Int)) = true := decide_eq_true c12
           clear c12
           by_cases c13 : 0 ≤ x20_2
           ·rw [if_pos c13] at H
            have c13b0 : decide (0 ≤ x20_2) = true := decide_eq_true c13
            clear c13
            by_cases c14 : x20_2 < (y177.length : Int)
            ·rw [if_pos c14] at H
             have c14b0 : decide (x20_2 < (y177.length : Int)) = true := decide_eq_true c14
             clear c14
             replace H := Option.bind_eq_some_iff.mp H
             obtain ⟨t183, A150, H⟩ := H
             replace H : (if t183 ≥ 0 then (if x2_2.length < 5864062014805 then (dag_Edges.l1 k2 l0 (x2_2 ++ [(⟨x10_1, wrap64 ((wrap64 (x10_1 + 1)) + x20_2), t183⟩ : S51)]) x10_1 l0 (l0.length : Int) x10_1 y177 (y177.length : Int) (wrap64 (x20_2 + 1)) ((q24 l0 x10_1).f0) ((q24 l0 x10_1).f1) ((q24 l0 x10_1).f2) ((q24 l0 x10_1).f3) ((q24 l0 x10_1).f4) ((q24 l0 x10_1).f5)) else (none)) else (dag_Edges.l1 k2 l0 x2_2 x10_1 l0 (l0.length : Int) x10_1 y177 (y177.length : Int) (wrap64 (x20_2 + 1)) ((q24 l0 x10_1).f0) ((q24 l0 x10_1).f1) ((q24 l0 x10_1).f2) ((q24 l0 x10_1).f3) ((q24 l0 x10_1).f4) ((q24 l0 x10_1).f5))) = some r := H
             have A15 := As_.mk A150
             clear A150
             by_cases c16 : t183 ≥ 0
             ·rw [if_pos c16] at H
              have c16b0 : decide (0 ≤ t183) = true := decide_eq_true c16
              clear c16
              by_cases c17 : x2_2.length < 5864062014805
              ·rw [if_pos c17] at H
               have LMc17 := As_.mk c17
               clear c17
               obtain ⟨y184, hy184⟩ : ∃ y_ : List (S51), y_ = (x2_2 ++ [(⟨x10_1, wrap64 ((wrap64 (x10_1 + 1)) + x20_2), t183⟩ : S51)]) := ⟨_, rfl⟩
               replace H : (dag_Edges.l1 k2 l0 y184 x10_1 l0 (l0.length : Int) x10_1 y177 (y177.length : Int) (wrap64 (x20_2 + 1)) ((q24 l0 x10_1).f0) ((q24 l0 x10_1).f1) ((q24 l0 x10_1).f2) ((q24 l0 x10_1).f3) ((q24 l0 x10_1).f4) ((q24 l0 x10_1).f5)) = some r := by first | (rw [hy184]; with_reducible exact H) | (have H2_ := (Option.bind_some _ _).symm.trans H; rw [hy184]; with_reducible exact H2_) | (have H2_ := (Option.bind_some _ _).symm.trans H; with_reducible exact H2_) | with_reducible exact H | (rw [hy184]; exact H) | exact H
               rw [hji5] at hy184
               have Ny184 := As_.mk hy184
               clear hy184
               have H' := As_.mk H
               clear H
               have p181 : 0 ≤ (x20_2 : Int) := of_decide_eq_true (by assumption)
               have q181 : x20_2 < (y177.length : Int) := of_decide_eq_true (by assumption)
               obtain ⟨ad181, e181, hx181_0, hx181_1, hx181_2, hx181_3, hx181_4, hx181_5⟩ := at_T24 HR180.out x20_2 p181 q181
               cases e181
               replace hx181_0 := (HB.out.cell (World.block_lt_of_cell? w _ hx181_0)).trans hx181_0
               replace hx181_1 := (HB.out.cell (World.block_lt_of_cell? w _ hx181_1)).trans hx181_1
               replace hx181_2 := (HB.out.cell (World.block_lt_of_cell? w _ hx181_2)).trans hx181_2
               replace hx181_3 := (HB.out.cell (World.block_lt_of_cell? w _ hx181_3)).trans hx181_3
               replace hx181_4 := (HB.out.cell (World.block_lt_of_cell? w _ hx181_4)).trans hx181_4
               replace hx181_5 := (HB.out.cell (World.block_lt_of_cell? w _ hx181_5)).trans hx181_5
               replace p181 := eq_true p181
               replace q181 := eq_true q181
               go_wp2_with (first | ((with_reducible refine gate_dst (N := 6) rfl ?_); refine box_event ?hg (N := 6) ?hd (cs := #[.int .i64 0, .int .i64 0, .int .i64 0, .int .i64 0, .int .i64 0, .string (⟨#[]⟩ : ByteArray)]) (t := 24) ?hr ?_; (case hd => rfl); (case hg => rfl); (case hr => first | (go_simp; done) | (go_simp; rfl)); intro gb182 hg w18 hbox hb; have n0_ := As_.mk (Kd.R_below (by (with_reducible repeat (first | apply Kd.R_alloc | apply Kd.R_drewN | apply Kd.R_drew)); exact HO_2.out) hb); have n1_ := As_.mk (kB_ (g := gb176) (o := .cells #[.int .i64 ((q24 l0 x10_1).f0), .int .i64 ((q24 l0 x10_1).f1), .int .i64 ((q24 l0 x10_1).f2), .int .i64 ((q24 l0 x10_1).f3), .int .i64 ((q24 l0 x10_1).f4), .string ((q24 l0 x10_1).f5)] 24 (0, 0)) (by (with_reducible repeat (first | refine kN_ ?_ _ | refine kD_ ?_ | refine kA_ ?_ _)); exact BK176.out) hb); have n2_ := As_.mk (bT_ (by repeat (first | (with_reducible first | exact HB.out | apply bA_ | apply bN_ | apply b1_ | refine bS_ ?_ GE176.out) | exact HB.out)) hb); have n3_ := As_.mk (hbox); have n4_ := As_.mk ((by rw [hg]; exact (bY_ (by repeat (first | (with_reducible first | exact HB.out | apply bA_ | apply bN_ | apply b1_ | refine bS_ ?_ GE176.out) | exact HB.out))) : w.heap.size ≤ gb182)); have n5_ := As_.mk ((by rw [hg]; exact (bY_ (by repeat (first | (with_reducible first | exact HB.out | apply bA_ | apply bN_ | apply b1_ | refine bS_ ?_ GE176.out) | exact HB.out))) : w.heap.size ≤ gb182)); have n6_ := As_.mk ((by rw [hg]; exact Nat.ne_of_lt (blk_lt (g := gb176) (o := .cells #[.int .i64 ((q24 l0 x10_1).f0), .int .i64 ((q24 l0 x10_1).f1), .int .i64 ((q24 l0 x10_1).f2), .int .i64 ((q24 l0 x10_1).f3), .int .i64 ((q24 l0 x10_1).f4), .string ((q24 l0 x10_1).f5)] 24 (0, 0)) (by (with_reducible repeat (first | refine kN_ ?_ _ | refine kD_ ?_ | refine kA_ ?_ _)); exact BK176.out)) : gb176 ≠ gb182)); have n7_ := As_.mk ((by rw [hg]; exact Nat.ne_of_gt (blk_lt (g := gb176) (o := .cells #[.int .i64 ((q24 l0 x10_1).f0), .int .i64 ((q24 l0 x10_1).f1), .int .i64 ((q24 l0 x10_1).f2), .int .i64 ((q24 l0 x10_1).f3), .int .i64 ((q24 l0 x10_1).f4), .string ((q24 l0 x10_1).f5)] 24 (0, 0)) (by (with_reducible repeat (first | refine kN_ ?_ _ | refine kD_ ?_ | refine kA_ ?_ _)); exact BK176.out)) : gb182 ≠ gb176)); clear HO_2; clear BK176; clear HB; have HO_2 := n0_; have BK176 := n1_; have HB := n2_; have BK182 := n3_; have GW182 := n4_; have GE182 := n5_; have NB176_182 := n6_; have NB182_176 := n7_; clear n0_ n1_ n2_ n3_ n4_ n5_ n6_ n7_; clear hb hbox hg; have hnb19 := NB182_176.out; have hnc19 := NB176_182.out; have hcz20_0 : w18.cell? ⟨gb182, 0, none⟩ = some (.int .i64 0) := (bC_ BK182.out 0).trans rfl; have hcz20_1 : w18.cell? ⟨gb182, 1, none⟩ = some (.int .i64 0) := (bC_ BK182.out 1).trans rfl; have hcz20_2 : w18.cell? ⟨gb182, 2, none⟩ = some (.int .i64 0) := (bC_ BK182.out 2).trans rfl; have hcz20_3 : w18.cell? ⟨gb182, 3, none⟩ = some (.int .i64 0) := (bC_ BK182.out 3).trans rfl; have hcz20_4 : w18.cell? ⟨gb182, 4, none⟩ = some (.int .i64 0) := (bC_ BK182.out 4).trans rfl; have hcz20_5 : w18.cell? ⟨gb182, 5, none⟩ = some (.string (⟨#[]⟩ : ByteArray)) := (bC_ BK182.out 5).trans rfl; have hfz20_0 := bZ_ BK182.out 0; have hfz20_1 := bZ_ BK182.out 1; have hfz20_2 := bZ_ BK182.out 2; have hfz20_3 := bZ_ BK182.out 3; have hfz20_4 := bZ_ BK182.out 4; have hfz20_5 := bZ_ BK182.out 5; have hcz21_0 : w18.cell? ⟨gb176, 0, none⟩ = some (.int .i64 ((q24 l0 x10_1).f0)) := (bC_ BK176.out 0).trans rfl; have hcz21_1 : w18.cell? ⟨gb176, 1, none⟩ = some (.int .i64 ((q24 l0 x10_1).f1)) := (bC_ BK176.out 1).trans rfl; have hcz21_2 : w18.cell? ⟨gb176, 2, none⟩ = some (.int .i64 ((q24 l0 x10_1).f2)) := (bC_ BK176.out 2).trans rfl; have hcz21_3 : w18.cell? ⟨gb176, 3, none⟩ = some (.int .i64 ((q24 l0 x10_1).f3)) := (bC_ BK176.out 3).trans rfl; have hcz21_4 : w18.cell? ⟨gb176, 4, none⟩ = some (.int .i64 ((q24 l0 x10_1).f4)) := (bC_ BK176.out 4).trans rfl; have hcz21_5 : w18.cell? ⟨gb176, 5, none⟩ = some (.string ((q24 l0 x10_1).f5)) := (bC_ BK176.out 5).trans rfl; have hfz21_0 := bZ_ BK176.out 0; have hfz21_1 := bZ_ BK176.out 1; have hfz21_2 := bZ_ BK176.out 2; have hfz21_3 := bZ_ BK176.out 3; have hfz21_4 := bZ_ BK176.out 4; have hfz21_5 := bZ_ BK176.out 5) | ((with_reducible refine gC_ (f := 91) rfl ?_); refine goesL_ (some 27) rfl rfl Try.func91 (by kernel_rfl) rfl #[.agg #[.int .i64 ((q24 l0 x10_1).f0), .int .i64 ((q24 l0 x10_1).f1), .int .i64 ((q24 l0 x10_1).f2), .int .i64 ((q24 l0 x10_1).f3), .int .i64 ((q24 l0 x10_1).f4), .string ((q24 l0 x10_1).f5)], .agg #[.int .i64 ((q24 y177 x20_2).f0), .int .i64 ((q24 y177 x20_2).f1), .int .i64 ((q24 y177 x20_2).f2), .int .i64 ((q24 y177 x20_2).f3), .int .i64 ((q24 y177 x20_2).f4), .string ((q24 y177 x20_2).f5)]] rfl (by (try simp only [List.map_toArray, List.map_cons, List.map_nil]); first | done | rfl) ?_; (with_reducible refine (dag_dist.calls k2 ((q24 l0 x10_1).f0) ((q24 l0 x10_1).f1) ((q24 l0 x10_1).f2) ((q24 l0 x10_1).f3) ((q24 l0 x10_1).f4) ((q24 l0 x10_1).f5) ((q24 y177 x20_2).f0) ((q24 y177 x20_2).f1) ((q24 y177 x20_2).f2) ((q24 y177 x20_2).f3) ((q24 y177 x20_2).f4) ((q24 y177 x20_2).f5) t183 _ A15.out).mono ?_); rintro e w22 ⟨rfl, hb⟩; refine ⟨_, rfl, ?_⟩; have n0_ := As_.mk (Kd.R_below (by (with_reducible repeat (first | apply Kd.R_alloc | apply Kd.R_drewN | apply Kd.R_drew)); exact (Kd.R_mono (Kd.R_far (p := ⟨gb182, 5, none⟩) (Kd.R_far (p := ⟨gb182, 4, none⟩) (Kd.R_far (p := ⟨gb182, 3, none⟩) (Kd.R_far (p := ⟨gb182, 2, none⟩) (Kd.R_far (p := ⟨gb182, 1, none⟩) (Kd.R_far (p := ⟨gb182, 0, none⟩) (Kd.R_types HO_2.out BK182.out (by decide)) (fun _ hk => hk.2) (.int .i64 ((q24 y177 x20_2).f0))) (fun _ hk => hk.2) (.int .i64 ((q24 y177 x20_2).f1))) (fun _ hk => hk.2) (.int .i64 ((q24 y177 x20_2).f2))) (fun _ hk => hk.2) (.int .i64 ((q24 y177 x20_2).f3))) (fun _ hk => hk.2) (.int .i64 ((q24 y177 x20_2).f4))) (fun _ hk => hk.2) (.string ((q24 y177 x20_2).f5))) (fun _ h_ => h_.1))) hb); have n1_ := As_.mk (kB_ (g := gb176) (o := .cells #[.int .i64 ((q24 l0 x10_1).f0), .int .i64 ((q24 l0 x10_1).f1), .int .i64 ((q24 l0 x10_1).f2), .int .i64 ((q24 l0 x10_1).f3), .int .i64 ((q24 l0 x10_1).f4), .string ((q24 l0 x10_1).f5)] 24 (0, 0)) (by (with_reducible repeat (first | refine kN_ ?_ _ | refine kD_ ?_ | refine kA_ ?_ _)); refine blk_far ?_ NB176_182.out _; (with_reducible repeat (first | refine kN_ ?_ _ | refine kD_ ?_ | refine kA_ ?_ _)); refine blk_far ?_ NB176_182.out _; (with_reducible repeat (first | refine kN_ ?_ _ | refine kD_ ?_ | refine kA_ ?_ _)); refine blk_far ?_ NB176_182.out _; (with_reducible repeat (first | refine kN_ ?_ _ | refine kD_ ?_ | refine kA_ ?_ _)); refine blk_far ?_ NB176_182.out _; (with_reducible repeat (first | refine kN_ ?_ _ | refine kD_ ?_ | refine kA_ ?_ _)); refine blk_far ?_ NB176_182.out _; (with_reducible repeat (first | refine kN_ ?_ _ | refine kD_ ?_ | refine kA_ ?_ _)); refine blk_far ?_ NB176_182.out _; (with_reducible repeat (first | refine kN_ ?_ _ | refine kD_ ?_ | refine kA_ ?_ _)); exact BK176.out) hb); have n2_ := As_.mk (kB_ (g := gb182) (o := .cells #[.int .i64 ((q24 y177 x20_2).f0), .int .i64 ((q24 y177 x20_2).f1), .int .i64 ((q24 y177 x20_2).f2), .int .i64 ((q24 y177 x20_2).f3), .int .i64 ((q24 y177 x20_2).f4), .string ((q24 y177 x20_2).f5)] 24 (0, 0)) (by (with_reducible repeat (first | refine kN_ ?_ _ | refine kD_ ?_ | refine kA_ ?_ _)); refine blk_put (cs := #[.int .i64 ((q24 y177 x20_2).f0), .int .i64 ((q24 y177 x20_2).f1), .int .i64 ((q24 y177 x20_2).f2), .int .i64 ((q24 y177 x20_2).f3), .int .i64 ((q24 y177 x20_2).f4), .string (⟨#[]⟩ : ByteArray)]) ?_ 5 _ rfl; (with_reducible repeat (first | refine kN_ ?_ _ | refine kD_ ?_ | refine kA_ ?_ _)); refine blk_put (cs := #[.int .i64 ((q24 y177 x20_2).f0), .int .i64 ((q24 y177 x20_2).f1), .int .i64 ((q24 y177 x20_2).f2), .int .i64 ((q24 y177 x20_2).f3), .int .i64 0, .string (⟨#[]⟩ : ByteArray)]) ?_ 4 _ rfl; (with_reducible repeat (first | refine kN_ ?_ _ | refine kD_ ?_ | refine kA_ ?_ _)); refine blk_put (cs := #[.int .i64 ((q24 y177 x20_2).f0), .int .i64 ((q24 y177 x20_2).f1), .int .i64 ((q24 y177 x20_2).f2), .int .i64 0, .int .i64 0, .string (⟨#[]⟩ : ByteArray)]) ?_ 3 _ rfl; (with_reducible repeat (first | refine kN_ ?_ _ | refine kD_ ?_ | refine kA_ ?_ _)); refine blk_put (cs := #[.int .i64 ((q24 y177 x20_2).f0), .int .i64 ((q24 y177 x20_2).f1), .int .i64 0, .int .i64 0, .int .i64 0, .string (⟨#[]⟩ : ByteArray)]) ?_ 2 _ rfl; (with_reducible repeat (first | refine kN_ ?_ _ | refine kD_ ?_ | refine kA_ ?_ _)); refine blk_put (cs := #[.int .i64 ((q24 y177 x20_2).f0), .int .i64 0, .int .i64 0, .int .i64 0, .int .i64 0, .string (⟨#[]⟩ : ByteArray)]) ?_ 1 _ rfl; (with_reducible repeat (first | refine kN_ ?_ _ | refine kD_ ?_ | refine kA_ ?_ _)); refine blk_put (cs := #[.int .i64 0, .int .i64 0, .int .i64 0, .int .i64 0, .int .i64 0, .string (⟨#[]⟩ : ByteArray)]) ?_ 0 _ rfl; (with_reducible repeat (first | refine kN_ ?_ _ | refine kD_ ?_ | refine kA_ ?_ _)); exact BK182.out) hb); have n3_ := As_.mk (bT_ (by repeat (first | (with_reducible first | exact HB.out | apply bA_ | apply bN_ | apply b1_ | refine bS_ ?_ GE176.out | refine bS_ ?_ GE182.out) | exact HB.out)) hb); clear HO_2; clear BK176; clear BK182; clear HB; have HO_2 := n0_; have BK176 := n1_; have BK182 := n2_; have HB := n3_; clear n0_ n1_ n2_ n3_) | ((with_reducible refine gate_builtin (b := .append) (xs := #[.tmp 30, .tmp 38]) rfl ?_); at_builtin; refine Kd.R_append k51 (w0 := w) w.heap.size rfl (.tmp 30) (.tmp 38) 31 51 (.agg #[(.int .i64 0), (.int .i64 0), (.int .i64 0)]) 24 rfl Try.underlying31 info51 rfl (by decide) (by omega) u2 x2_2 (⟨x10_1, wrap64 (ji5 + x20_2), t183⟩ : S51) [.int .i64 x10_1, .int .i64 (wrap64 (ji5 + x20_2)), .int .i64 t183] (fun _ => True) (fun _ => False) rfl rfl ?aP (fun _ hk => hk.elim) ?aF ?aO ?aB ?aS ?aL ?_; (case aP => exact k51_mkM _ _ _ (⟨x10_1, wrap64 (ji5 + x20_2), t183⟩ : S51)); (case aB => exact (by repeat (first | (with_reducible first | exact HB.out | apply bA_ | apply bN_ | apply b1_ | refine bS_ ?_ GE176.out | refine bS_ ?_ GE182.out) | exact HB.out))); (case aF => exact (fun _ _ => trivial)); (case aO => exact (by (with_reducible repeat (first | apply Kd.R_alloc | apply Kd.R_drewN | apply Kd.R_drew)); exact HO_2.out)); (case aS => exact (bY_ (by repeat (first | (with_reducible first | exact HB.out | apply bA_ | apply bN_ | apply b1_ | refine bS_ ?_ GE176.out | refine bS_ ?_ GE182.out) | exact HB.out)))); (case aL => have := LMc17.out; omega); intro v185 w23 ho hb hg hat; rw [← Ny184.out] at ho; have n0_ := As_.mk (blk_grown (g := gb176) (o := .cells #[.int .i64 ((q24 l0 x10_1).f0), .int .i64 ((q24 l0 x10_1).f1), .int .i64 ((q24 l0 x10_1).f2), .int .i64 ((q24 l0 x10_1).f3), .int .i64 ((q24 l0 x10_1).f4), .string ((q24 l0 x10_1).f5)] 24 (0, 0)) (by (with_reducible repeat (first | refine kN_ ?_ _ | refine kD_ ?_ | refine kA_ ?_ _)); exact BK176.out) hg (Kd.R_ne HO_2.out BK176.out (by decide))); have n1_ := As_.mk (blk_grown (g := gb182) (o := .cells #[.int .i64 ((q24 y177 x20_2).f0), .int .i64 ((q24 y177 x20_2).f1), .int .i64 ((q24 y177 x20_2).f2), .int .i64 ((q24 y177 x20_2).f3), .int .i64 ((q24 y177 x20_2).f4), .string ((q24 y177 x20_2).f5)] 24 (0, 0)) (by (with_reducible repeat (first | refine kN_ ?_ _ | refine kD_ ?_ | refine kA_ ?_ _)); exact BK182.out) hg (Kd.R_ne HO_2.out BK182.out (by decide))); have n2_ := As_.mk (hb); have n3_ := As_.mk (ho); clear BK176; clear BK182; clear HB; clear HO_2; have BK176 := n0_; have BK182 := n1_; have HB := n2_; have HO186 := n3_; clear n0_ n1_ n2_ n3_; clear ho hb hg hat))
               go_roundg k2
               case measure => have := HK1.out; have := HK2.out; omega
               case rel => exact ⟨(y184), (wrap64 (x20_2 + 1)), (by first | rfl | (simp; done) | (simp [*]; done) | (simp [wrap64]; done) | (congr 1; rw [Bool.eq_iff_iff]; simp; done)), H', ⟨by have := HK1.out; have := HK2.out; omega⟩, ⟨by (with_reducible repeat (first | apply Kd.R_alloc | apply Kd.R_drewN | apply Kd.R_drew)); exact HO186.out⟩, ⟨by (with_reducible repeat (first | refine kN_ ?_ _ | refine kD_ ?_ | refine kA_ ?_ _)); exact BK176.out⟩, ⟨by repeat (first | (with_reducible first | exact HB.out | apply bA_ | apply bN_ | apply b1_ | refine bS_ ?_ GE176.out | refine bS_ ?_ GE182.out) | exact HB.out)⟩⟩
              rw [if_neg c17] at H
              exact absurd H (by simp)
             rw [if_neg c16] at H
             have c16b0 : decide (0 ≤ t183) = false := decide_eq_false c16
             clear c16
             have H' := As_.mk H
             clear H
             have p181 : 0 ≤ (x20_2 : Int) := of_decide_eq_true (by assumption)
             have q181 : x20_2 < (y177.length : Int) := of_decide_eq_true (by assumption)
             obtain ⟨ad181, e181, hx181_0, hx181_1, hx181_2, hx181_3, hx181_4, hx181_5⟩ := at_T24 HR180.out x20_2 p181 q181
             cases e181
             replace hx181_0 := (HB.out.cell (World.block_lt_of_cell? w _ hx181_0)).trans hx181_0
             replace hx181_1 := (HB.out.cell (World.block_lt_of_cell? w _ hx181_1)).trans hx181_1
             replace hx181_2 := (HB.out.cell (World.block_lt_of_cell? w _ hx181_2)).trans hx181_2
             replace hx181_3 := (HB.out.cell (World.block_lt_of_cell? w _ hx181_3)).trans hx181_3
             replace hx181_4 := (HB.out.cell (World.block_lt_of_cell? w _ hx181_4)).trans hx181_4
             replace hx181_5 := (HB.out.cell (World.block_lt_of_cell? w _ hx181_5)).trans hx181_5
             replace p181 := eq_true p181
             replace q181 := eq_true q181
             go_wp2_with (first | ((with_reducible refine gate_dst (N := 6) rfl ?_); refine box_event ?hg (N := 6) ?hd (cs := #[.int .i64 0, .int .i64 0, .int .i64 0, .int .i64 0, .int .i64 0, .string (⟨#[]⟩ : ByteArray)]) (t := 24) ?hr ?_; (case hd => rfl); (case hg => rfl); (case hr => first | (go_simp; done) | (go_simp; rfl)); intro gb182 hg w24 hbox hb; have n0_ := As_.mk (Kd.R_below (by (with_reducible repeat (first | apply Kd.R_alloc | apply Kd.R_drewN | apply Kd.R_drew)); exact HO_2.out) hb); have n1_ := As_.mk (kB_ (g := gb176) (o := .cells #[.int .i64 ((q24 l0 x10_1).f0), .int .i64 ((q24 l0 x10_1).f1), .int .i64 ((q24 l0 x10_1).f2), .int .i64 ((q24 l0 x10_1).f3), .int .i64 ((q24 l0 x10_1).f4), .string ((q24 l0 x10_1).f5)] 24 (0, 0)) (by (with_reducible repeat (first | refine kN_ ?_ _ | refine kD_ ?_ | refine kA_ ?_ _)); exact BK176.out) hb); have n2_ := As_.mk (bT_ (by repeat (first | (with_reducible first | exact HB.out | apply bA_ | apply bN_ | apply b1_ | refine bS_ ?_ GE176.out) | exact HB.out)) hb); have n3_ := As_.mk (hbox); have n4_ := As_.mk ((by rw [hg]; exact (bY_ (by repeat (first | (with_reducible first | exact HB.out | apply bA_ | apply bN_ | apply b1_ | refine bS_ ?_ GE176.out) | exact HB.out))) : w.heap.size ≤ gb182)); have n5_ := As_.mk ((by rw [hg]; exact (bY_ (by repeat (first | (with_reducible first | exact HB.out | apply bA_ | apply bN_ | apply b1_ | refine bS_ ?_ GE176.out) | exact HB.out))) : w.heap.size ≤ gb182)); have n6_ := As_.mk ((by rw [hg]; exact Nat.ne_of_lt (blk_lt (g := gb176) (o := .cells #[.int .i64 ((q24 l0 x10_1).f0), .int .i64 ((q24 l0 x10_1).f1), .int .i64 ((q24 l0 x10_1).f2), .int .i64 ((q24 l0 x10_1).f3), .int .i64 ((q24 l0 x10_1).f4), .string ((q24 l0 x10_1).f5)] 24 (0, 0)) (by (with_reducible repeat (first | refine kN_ ?_ _ | refine kD_ ?_ | refine kA_ ?_ _)); exact BK176.out)) : gb176 ≠ gb182)); have n7_ := As_.mk ((by rw [hg]; exact Nat.ne_of_gt (blk_lt (g := gb176) (o := .cells #[.int .i64 ((q24 l0 x10_1).f0), .int .i64 ((q24 l0 x10_1).f1), .int .i64 ((q24 l0 x10_1).f2), .int .i64 ((q24 l0 x10_1).f3), .int .i64 ((q24 l0 x10_1).f4), .string ((q24 l0 x10_1).f5)] 24 (0, 0)) (by (with_reducible repeat (first | refine kN_ ?_ _ | refine kD_ ?_ | refine kA_ ?_ _)); exact BK176.out)) : gb182 ≠ gb176)); clear HO_2; clear BK176; clear HB; have HO_2 := n0_; have BK176 := n1_; have HB := n2_; have BK182 := n3_; have GW182 := n4_; have GE182 := n5_; have NB176_182 := n6_; have NB182_176 := n7_; clear n0_ n1_ n2_ n3_ n4_ n5_ n6_ n7_; clear hb hbox hg; have hnb25 := NB182_176.out; have hnc25 := NB176_182.out; have hcz26_0 : w24.cell? ⟨gb182, 0, none⟩ = some (.int .i64 0) := (bC_ BK182.out 0).trans rfl; have hcz26_1 : w24.cell? ⟨gb182, 1, none⟩ = some (.int .i64 0) := (bC_ BK182.out 1).trans rfl; have hcz26_2 : w24.cell? ⟨gb182, 2, none⟩ = some (.int .i64 0) := (bC_ BK182.out 2).trans rfl; have hcz26_3 : w24.cell? ⟨gb182, 3, none⟩ = some (.int .i64 0) := (bC_ BK182.out 3).trans rfl; have hcz26_4 : w24.cell? ⟨gb182, 4, none⟩ = some (.int .i64 0) := (bC_ BK182.out 4).trans rfl; have hcz26_5 : w24.cell? ⟨gb182, 5, none⟩ = some (.string (⟨#[]⟩ : ByteArray)) := (bC_ BK182.out 5).trans rfl; have hfz26_0 := bZ_ BK182.out 0; have hfz26_1 := bZ_ BK182.out 1; have hfz26_2 := bZ_ BK182.out 2; have hfz26_3 := bZ_ BK182.out 3; have hfz26_4 := bZ_ BK182.out 4; have hfz26_5 := bZ_ BK182.out 5; have hcz27_0 : w24.cell? ⟨gb176, 0, none⟩ = some (.int .i64 ((q24 l0 x10_1).f0)) := (bC_ BK176.out 0).trans rfl; have hcz27_1 : w24.cell? ⟨gb176, 1, none⟩ = some (.int .i64 ((q24 l0 x10_1).f1)) := (bC_ BK176.out 1).trans rfl; have hcz27_2 : w24.cell? ⟨gb176, 2, none⟩ = some (.int .i64 ((q24 l0 x10_1).f2)) := (bC_ BK176.out 2).trans rfl; have hcz27_3 : w24.cell? ⟨gb176, 3, none⟩ = some (.int .i64 ((q24 l0 x10_1).f3)) := (bC_ BK176.out 3).trans rfl; have hcz27_4 : w24.cell? ⟨gb176, 4, none⟩ = some (.int .i64 ((q24 l0 x10_1).f4)) := (bC_ BK176.out 4).trans rfl; have hcz27_5 : w24.cell? ⟨gb176, 5, none⟩ = some (.string ((q24 l0 x10_1).f5)) := (bC_ BK176.out 5).trans rfl; have hfz27_0 := bZ_ BK176.out 0; have hfz27_1 := bZ_ BK176.out 1; have hfz27_2 := bZ_ BK176.out 2; have hfz27_3 := bZ_ BK176.out 3; have hfz27_4 := bZ_ BK176.out 4; have hfz27_5 := bZ_ BK176.out 5) | ((with_reducible refine gC_ (f := 91) rfl ?_); refine goesL_ (some 27) rfl rfl Try.func91 (by kernel_rfl) rfl #[.agg #[.int .i64 ((q24 l0 x10_1).f0), .int .i64 ((q24 l0 x10_1).f1), .int .i64 ((q24 l0 x10_1).f2), .int .i64 ((q24 l0 x10_1).f3), .int .i64 ((q24 l0 x10_1).f4), .string ((q24 l0 x10_1).f5)], .agg #[.int .i64 ((q24 y177 x20_2).f0), .int .i64 ((q24 y177 x20_2).f1), .int .i64 ((q24 y177 x20_2).f2), .int .i64 ((q24 y177 x20_2).f3), .int .i64 ((q24 y177 x20_2).f4), .string ((q24 y177 x20_2).f5)]] rfl (by (try simp only [List.map_toArray, List.map_cons, List.map_nil]); first | done | rfl) ?_; (with_reducible refine (dag_dist.calls k2 ((q24 l0 x10_1).f0) ((q24 l0 x10_1).f1) ((q24 l0 x10_1).f2) ((q24 l0 x10_1).f3) ((q24 l0 x10_1).f4) ((q24 l0 x10_1).f5) ((q24 y177 x20_2).f0) ((q24 y177 x20_2).f1) ((q24 y177 x20_2).f2) ((q24 y177 x20_2).f3) ((q24 y177 x20_2).f4) ((q24 y177 x20_2).f5) t183 _ A15.out).mono ?_); rintro e w28 ⟨rfl, hb⟩; refine ⟨_, rfl, ?_⟩; have n0_ := As_.mk (Kd.R_below (by (with_reducible repeat (first | apply Kd.R_alloc | apply Kd.R_drewN | apply Kd.R_drew)); exact (Kd.R_mono (Kd.R_far (p := ⟨gb182, 5, none⟩) (Kd.R_far (p := ⟨gb182, 4, none⟩) (Kd.R_far (p := ⟨gb182, 3, none⟩) (Kd.R_far (p := ⟨gb182, 2, none⟩) (Kd.R_far (p := ⟨gb182, 1, none⟩) (Kd.R_far (p := ⟨gb182, 0, none⟩) (Kd.R_types HO_2.out BK182.out (by decide)) (fun _ hk => hk.2) (.int .i64 ((q24 y177 x20_2).f0))) (fun _ hk => hk.2) (.int .i64 ((q24 y177 x20_2).f1))) (fun _ hk => hk.2) (.int .i64 ((q24 y177 x20_2).f2))) (fun _ hk => hk.2) (.int .i64 ((q24 y177 x20_2).f3))) (fun _ hk => hk.2) (.int .i64 ((q24 y177 x20_2).f4))) (fun _ hk => hk.2) (.string ((q24 y177 x20_2).f5))) (fun _ h_ => h_.1))) hb); have n1_ := As_.mk (kB_ (g := gb176) (o := .cells #[.int .i64 ((q24 l0 x10_1).f0), .int .i64 ((q24 l0 x10_1).f1), .int .i64 ((q24 l0 x10_1).f2), .int .i64 ((q24 l0 x10_1).f3), .int .i64 ((q24 l0 x10_1).f4), .string ((q24 l0 x10_1).f5)] 24 (0, 0)) (by (with_reducible repeat (first | refine kN_ ?_ _ | refine kD_ ?_ | refine kA_ ?_ _)); refine blk_far ?_ NB176_182.out _; (with_reducible repeat (first | refine kN_ ?_ _ | refine kD_ ?_ | refine kA_ ?_ _)); refine blk_far ?_ NB176_182.out _; (with_reducible repeat (first | refine kN_ ?_ _ | refine kD_ ?_ | refine kA_ ?_ _)); refine blk_far ?_ NB176_182.out _; (with_reducible repeat (first | refine kN_ ?_ _ | refine kD_ ?_ | refine kA_ ?_ _)); refine blk_far ?_ NB176_182.out _; (with_reducible repeat (first | refine kN_ ?_ _ | refine kD_ ?_ | refine kA_ ?_ _)); refine blk_far ?_ NB176_182.out _; (with_reducible repeat (first | refine kN_ ?_ _ | refine kD_ ?_ | refine kA_ ?_ _)); refine blk_far ?_ NB176_182.out _; (with_reducible repeat (first | refine kN_ ?_ _ | refine kD_ ?_ | refine kA_ ?_ _)); exact BK176.out) hb); have n2_ := As_.mk (kB_ (g := gb182) (o := .cells #[.int .i64 ((q24 y177 x20_2).f0), .int .i64 ((q24 y177 x20_2).f1), .int .i64 ((q24 y177 x20_2).f2), .int .i64 ((q24 y177 x20_2).f3), .int .i64 ((q24 y177 x20_2).f4), .string ((q24 y177 x20_2).f5)] 24 (0, 0)) (by (with_reducible repeat (first | refine kN_ ?_ _ | refine kD_ ?_ | refine kA_ ?_ _)); refine blk_put (cs := #[.int .i64 ((q24 y177 x20_2).f0), .int .i64 ((q24 y177 x20_2).f1), .int .i64 ((q24 y177 x20_2).f2), .int .i64 ((q24 y177 x20_2).f3), .int .i64 ((q24 y177 x20_2).f4), .string (⟨#[]⟩ : ByteArray)]) ?_ 5 _ rfl; (with_reducible repeat (first | refine kN_ ?_ _ | refine kD_ ?_ | refine kA_ ?_ _)); refine blk_put (cs := #[.int .i64 ((q24 y177 x20_2).f0), .int .i64 ((q24 y177 x20_2).f1), .int .i64 ((q24 y177 x20_2).f2), .int .i64 ((q24 y177 x20_2).f3), .int .i64 0, .string (⟨#[]⟩ : ByteArray)]) ?_ 4 _ rfl; (with_reducible repeat (first | refine kN_ ?_ _ | refine kD_ ?_ | refine kA_ ?_ _)); refine blk_put (cs := #[.int .i64 ((q24 y177 x20_2).f0), .int .i64 ((q24 y177 x20_2).f1), .int .i64 ((q24 y177 x20_2).f2), .int .i64 0, .int .i64 0, .string (⟨#[]⟩ : ByteArray)]) ?_ 3 _ rfl; (with_reducible repeat (first | refine kN_ ?_ _ | refine kD_ ?_ | refine kA_ ?_ _)); refine blk_put (cs := #[.int .i64 ((q24 y177 x20_2).f0), .int .i64 ((q24 y177 x20_2).f1), .int .i64 0, .int .i64 0, .int .i64 0, .string (⟨#[]⟩ : ByteArray)]) ?_ 2 _ rfl; (with_reducible repeat (first | refine kN_ ?_ _ | refine kD_ ?_ | refine kA_ ?_ _)); refine blk_put (cs := #[.int .i64 ((q24 y177 x20_2).f0), .int .i64 0, .int .i64 0, .int .i64 0, .int .i64 0, .string (⟨#[]⟩ : ByteArray)]) ?_ 1 _ rfl; (with_reducible repeat (first | refine kN_ ?_ _ | refine kD_ ?_ | refine kA_ ?_ _)); refine blk_put (cs := #[.int .i64 0, .int .i64 0, .int .i64 0, .int .i64 0, .int .i64 0, .string (⟨#[]⟩ : ByteArray)]) ?_ 0 _ rfl; (with_reducible repeat (first | refine kN_ ?_ _ | refine kD_ ?_ | refine kA_ ?_ _)); exact BK182.out) hb); have n3_ := As_.mk (bT_ (by repeat (first | (with_reducible first | exact HB.out | apply bA_ | apply bN_ | apply b1_ | refine bS_ ?_ GE176.out | refine bS_ ?_ GE182.out) | exact HB.out)) hb); clear HO_2; clear BK176; clear BK182; clear HB; have HO_2 := n0_; have BK176 := n1_; have BK182 := n2_; have HB := n3_; clear n0_ n1_ n2_ n3_))
             go_roundg k2
             case measure => have := HK1.out; have := HK2.out; omega
             case rel => exact ⟨(x2_2), (wrap64 (x20_2 + 1)), (by first | rfl | (simp; done) | (simp [*]; done) | (simp [wrap64]; done) | (congr 1; rw [Bool.eq_iff_iff]; simp; done)), H', ⟨by have := HK1.out; have := HK2.out; omega⟩, ⟨by (with_reducible repeat (first | apply Kd.R_alloc | apply Kd.R_drewN | apply Kd.R_drew)); exact HO_2.out⟩, ⟨by (with_reducible repeat (first | refine kN_ ?_ _ | refine kD_ ?_ | refine kA_ ?_ _)); exact BK176.out⟩, ⟨by repeat (first | (with_reducible first | exact HB.out | apply bA_ | apply bN_ | apply b1_ | refine bS_ ?_ GE176.out | refine bS_ ?_ GE182.out) | exact HB.out)⟩⟩
            rw [if_neg c14] at H
            exact absurd H (by simp)
           rw [if_neg c13] at H
           exact absurd H (by simp)
          rw [if_neg c12] at H
          have c12b0 : decide (x20_2 < (y177.length : Int)) = false := decide_eq_false c12
          clear c12
          have H' := As_.mk H
          clear H
          go_wp2
          go_roundg k2
          case measure => have := HK1.out; have := HK2.out; omega
          case rel => exact ⟨(x2_2), (wrap64 (x10_1 + 1)), (by first | rfl | (simp; done) | (simp [*]; done) | (simp [wrap64]; done) | (congr 1; rw [Bool.eq_iff_iff]; simp; done)), H', ⟨by have := HK1.out; have := HK2.out; omega⟩, ⟨by (with_reducible repeat (first | apply Kd.R_alloc | apply Kd.R_drewN | apply Kd.R_drew)); exact HO_2.out⟩, ⟨by repeat (first | (with_reducible first | exact HB.out | apply bA_ | apply bN_ | apply b1_ | refine bS_ ?_ GE176.out) | exact HB.out)⟩⟩
       rw [if_neg c7] at H
       exact absurd H (by simp)
      rw [if_neg c6] at H
      exact absurd H (by simp)
     rw [if_neg c4] at H
     exact absurd H (by simp)
    rw [if_neg c3] at H
    exact absurd H (by simp)
   rw [if_neg c2] at H
   have c2b0 : decide (x10_1 < (l0.length : Int)) = false := decide_eq_false c2
   clear c2
   obtain rfl := Option.some.inj H
   go_wp2
   go_ret
   exact ⟨_, by first | rfl | (simp [eN_, eS_] <;> rfl) | (simp [*, eN_, eS_] <;> rfl), by (with_reducible repeat (first | apply Kd.R_alloc | apply Kd.R_drewN | apply Kd.R_drew)); exact HO_2.out, by repeat (first | (with_reducible first | exact HB.out | apply bA_ | apply bN_ | apply b1_) | exact HB.out)⟩
def dag_Of.f (k : Nat) (l0 : List (S24)) : Option ((List (S51)) × Int) := (dag_May.f k l0).bind fun t187 => (if t187 = true then ((dag_Edges.f k l0).bind fun t188 => (some (t188, 0))) else (some (([] : List (S51)), 1)))
theorem dag_Of.mono : ∀ a0 k, LeO (dag_Of.f k a0) (dag_Of.f (k + 1) a0) := by
 intro a0 k
 unfold dag_Of.f
 repeat' first
  | (with_reducible exact dag_Edges.mono _ _)
  | (with_reducible exact dag_May.mono _ _)
  | (with_reducible exact LeO.refl _)
  | (with_reducible exact LeO.none _)
  | (with_reducible refine LeO.ite ?_ ?_)
  | (with_reducible refine LeO.bind ?_ (fun _ => ?_))
  | exact LeO.none _
  | refine LeO.ite ?_ ?_
  | refine LeO.bind ?_ (fun _ => ?_)
set_option maxHeartbeats 8000000 in
set_option maxRecDepth 100000 in
theorem dag_Of.calls (k : Nat) (A0 : Option Addr) (c0 : Nat) (l0 : List (S24)) (r1 : List (S51)) (r2 : Int) (w : World) (hr0 : Kd.C k24 w A0 l0.length l0) (hc0 : l0.length ≤ c0) (h : dag_Of.f k l0 = some (r1, r2)) :
    Calls Try.prog 19 #[.slice A0 l0.length c0] w fun e w' => ∃ v0_ : Value, e = .returned (.tuple #[v0_, .int .i64 r2]) ∧ Kd.R k51 51 w' w.heap.size (fun _ => True) v0_ r1 ∧ Below w.heap.size w w' := by
 have HR0 := As_.mk hr0
 have HC0 := As_.mk hc0
 clear hr0 hc0
 have HB := As_.mk (Below.refl w.heap.size w)
 have H : ((dag_May.f k l0).bind fun t187 => (if t187 = true then ((dag_Edges.f k l0).bind fun t188 => (some (t188, 0))) else (some (([] : List (S51)), 1)))) = some (r1, r2) := h
 clear h
 replace H := Option.bind_eq_some_iff.mp H
 obtain ⟨t187, A20, H⟩ := H
 replace H : (if t187 = true then ((dag_Edges.f k l0).bind fun t188 => (some (t188, 0))) else (some (([] : List (S51)), 1))) = some (r1, r2) := H
 have A2 := As_.mk A20
 clear A20
 by_cases c3 : t187 = true
 ·subst c3
  have H1 : ((dag_Edges.f k l0).bind fun t188 => (some (t188, 0))) = some (r1, r2) := by rw [if_pos rfl] at H; exact H
  clear H
  have H := H1
  clear H1
  replace H := Option.bind_eq_some_iff.mp H
  obtain ⟨t188, A40, H⟩ := H
  replace H : (some (t188, 0)) = some (r1, r2) := H
  have A4 := As_.mk A40
  clear A40
  simp only [Option.some.injEq, Prod.mk.injEq] at H
  obtain ⟨rfl, rfl⟩ := H
  go_enter Try.func19, Try.ntmps19
  go_wp2_with (first | ((with_reducible refine gC_ (f := 55) rfl ?_); refine goesL_ (some 5) rfl rfl Try.func55 (by kernel_rfl) rfl #[.slice A0 l0.length c0] rfl (by (try simp only [List.map_toArray, List.map_cons, List.map_nil]); first | done | rfl) ?_; (with_reducible refine (dag_May.calls k _ _ l0 true _ ?side1 ?side2 A2.out).mono ?_); (case side1 => repeat (first | exact HR0.out | (with_reducible refine Kd.C_alloc ?_ _) | (with_reducible refine Kd.C_drewN ?_ _) | (with_reducible refine Kd.C_drew ?_))); (case side2 => exact HC0.out); rintro e w5 ⟨rfl, hb⟩; refine ⟨_, rfl, ?_⟩; have n0_ := As_.mk (bT_ (by repeat (first | (with_reducible first | exact HB.out | apply bA_ | apply bN_ | apply b1_) | exact HB.out)) hb); clear HB; have HB := n0_; clear n0_) | ((with_reducible refine gC_ (f := 56) rfl ?_); refine goesL_ (some 8) rfl rfl Try.func56 (by kernel_rfl) rfl #[.slice A0 l0.length c0] rfl (by (try simp only [List.map_toArray, List.map_cons, List.map_nil]); first | done | rfl) ?_; (with_reducible refine (dag_Edges.calls k _ _ l0 t188 _ ?side1 ?side2 A4.out).mono ?_); (case side1 => repeat (first | exact (Kd.C_below HR0.out HB.out) | (with_reducible refine Kd.C_alloc ?_ _) | (with_reducible refine Kd.C_drewN ?_ _) | (with_reducible refine Kd.C_drew ?_))); (case side2 => exact HC0.out); rintro e w6 ⟨v189, rfl, ho0, hb⟩; refine ⟨_, rfl, ?_⟩; have n0_ := As_.mk (Kd.R_lower ho0 (bY_ (by repeat (first | (with_reducible first | exact HB.out | apply bA_ | apply bN_ | apply b1_) | exact HB.out)))); have n1_ := As_.mk (bT_ (by repeat (first | (with_reducible first | exact HB.out | apply bA_ | apply bN_ | apply b1_) | exact HB.out)) hb); clear HB; have HO190 := n0_; have HB := n1_; clear n0_ n1_; (try clear ho0)))
  go_ret2
  exact ⟨_, by first | rfl | (simp [eN_, eS_] <;> rfl) | (simp [*, eN_, eS_] <;> rfl), by (with_reducible repeat (first | apply Kd.R_alloc | apply Kd.R_drewN | apply Kd.R_drew)); exact HO190.out, by repeat (first | (with_reducible first | exact HB.out | apply bA_ | apply bN_ | apply b1_) | exact HB.out)⟩
 replace c3 := Bool.eq_false_iff.mpr c3
 subst c3
 have H1 : (some (([] : List (S51)), 1)) = some (r1, r2) := by rw [if_neg (show ¬ (false = true) by decide)] at H; exact H
 clear H
 have H := H1
 clear H1
 simp only [Option.some.injEq, Prod.mk.injEq] at H
 obtain ⟨rfl, rfl⟩ := H
 go_enter Try.func19, Try.ntmps19
 go_wp2_with (first | ((with_reducible refine gC_ (f := 55) rfl ?_); refine goesL_ (some 5) rfl rfl Try.func55 (by kernel_rfl) rfl #[.slice A0 l0.length c0] rfl (by (try simp only [List.map_toArray, List.map_cons, List.map_nil]); first | done | rfl) ?_; (with_reducible refine (dag_May.calls k _ _ l0 false _ ?side1 ?side2 A2.out).mono ?_); (case side1 => repeat (first | exact HR0.out | (with_reducible refine Kd.C_alloc ?_ _) | (with_reducible refine Kd.C_drewN ?_ _) | (with_reducible refine Kd.C_drew ?_))); (case side2 => exact HC0.out); rintro e w7 ⟨rfl, hb⟩; refine ⟨_, rfl, ?_⟩; have n0_ := As_.mk (bT_ (by repeat (first | (with_reducible first | exact HB.out | apply bA_ | apply bN_ | apply b1_) | exact HB.out)) hb); clear HB; have HB := n0_; clear n0_))
 go_ret2
 exact ⟨_, by first | rfl | (simp [eN_, eS_] <;> rfl) | (simp [*, eN_, eS_] <;> rfl), by first | exact Kd.R_nil _ _ _ _ _ | exact Kd.N_nil _ _ _ _ _ | exact Kd.V_nil _ _ _ _ _ | exact Kd.Q_nil _ _ _ _ _ | exact Kd.S_nil _ _ _ _ _, by repeat (first | (with_reducible first | exact HB.out | apply bA_ | apply bN_ | apply b1_) | exact HB.out)⟩
def dag_Heights.f (k : Nat) (l0 : List (S24)) : Option (List Int × Int) := (dag_May.f k l0).bind fun t191 => (if t191 = true then ((dag_Edges.f k l0).bind fun t192 => ((dag_High.f k l0 t192).bind fun t195 => (some (t195, 0)))) else (some (([] : List Int), 1)))
theorem dag_Heights.mono : ∀ a0 k, LeO (dag_Heights.f k a0) (dag_Heights.f (k + 1) a0) := by
 intro a0 k
 unfold dag_Heights.f
 repeat' first
  | (with_reducible exact dag_Edges.mono _ _)
  | (with_reducible exact dag_High.mono _ _ _)
  | (with_reducible exact dag_May.mono _ _)
  | (with_reducible exact LeO.refl _)
  | (with_reducible exact LeO.none _)
  | (with_reducible refine LeO.ite ?_ ?_)
  | (with_reducible refine LeO.bind ?_ (fun _ => ?_))
  | exact LeO.none _
  | refine LeO.ite ?_ ?_
  | refine LeO.bind ?_ (fun _ => ?_)
set_option maxHeartbeats 8000000 in
set_option maxRecDepth 100000 in
theorem dag_Heights.calls (k : Nat) (A0 : Option Addr) (c0 : Nat) (l0 : List (S24)) (r1 : List Int) (r2 : Int) (w : World) (hr0 : Kd.C k24 w A0 l0.length l0) (hc0 : l0.length ≤ c0) (h : dag_Heights.f k l0 = some (r1, r2)) :
    Calls Try.prog 20 #[.slice A0 l0.length c0] w fun e w' => ∃ v0_ : Value, e = .returned (.tuple #[v0_, .int .i64 r2]) ∧ Kd.R (Kd.int .i64) 3 w' w.heap.size (fun _ => True) v0_ r1 ∧ Below w.heap.size w w' := by
 have HR0 := As_.mk hr0
 have HC0 := As_.mk hc0
 clear hr0 hc0
 have HB := As_.mk (Below.refl w.heap.size w)
 have H : ((dag_May.f k l0).bind fun t191 => (if t191 = true then ((dag_Edges.f k l0).bind fun t192 => ((dag_High.f k l0 t192).bind fun t195 => (some (t195, 0)))) else (some (([] : List Int), 1)))) = some (r1, r2) := h
 clear h
 replace H := Option.bind_eq_some_iff.mp H
 obtain ⟨t191, A20, H⟩ := H
 replace H : (if t191 = true then ((dag_Edges.f k l0).bind fun t192 => ((dag_High.f k l0 t192).bind fun t195 => (some (t195, 0)))) else (some (([] : List Int), 1))) = some (r1, r2) := H
 have A2 := As_.mk A20
 clear A20
 by_cases c3 : t191 = true
 ·subst c3
  have H1 : ((dag_Edges.f k l0).bind fun t192 => ((dag_High.f k l0 t192).bind fun t195 => (some (t195, 0)))) = some (r1, r2) := by rw [if_pos rfl] at H; exact H
  clear H
  have H := H1
  clear H1
  replace H := Option.bind_eq_some_iff.mp H
  obtain ⟨t192, A40, H⟩ := H
  replace H : ((dag_High.f k l0 t192).bind fun t195 => (some (t195, 0))) = some (r1, r2) := H
  have A4 := As_.mk A40
  clear A40
  replace H := Option.bind_eq_some_iff.mp H
  obtain ⟨t195, A50, H⟩ := H
  replace H : (some (t195, 0)) = some (r1, r2) := H
  have A5 := As_.mk A50
  clear A50
  simp only [Option.some.injEq, Prod.mk.injEq] at H
  obtain ⟨rfl, rfl⟩ := H
  go_enter Try.func20, Try.ntmps20
  go_wp2_with (first | ((with_reducible refine gC_ (f := 55) rfl ?_); refine goesL_ (some 5) rfl rfl Try.func55 (by kernel_rfl) rfl #[.slice A0 l0.length c0] rfl (by (try simp only [List.map_toArray, List.map_cons, List.map_nil]); first | done | rfl) ?_; (with_reducible refine (dag_May.calls k _ _ l0 true _ ?side1 ?side2 A2.out).mono ?_); (case side1 => repeat (first | exact HR0.out | (with_reducible refine Kd.C_alloc ?_ _) | (with_reducible refine Kd.C_drewN ?_ _) | (with_reducible refine Kd.C_drew ?_))); (case side2 => exact HC0.out); rintro e w6 ⟨rfl, hb⟩; refine ⟨_, rfl, ?_⟩; have n0_ := As_.mk (bT_ (by repeat (first | (with_reducible first | exact HB.out | apply bA_ | apply bN_ | apply b1_) | exact HB.out)) hb); clear HB; have HB := n0_; clear n0_) | ((with_reducible refine gC_ (f := 56) rfl ?_); refine goesL_ (some 9) rfl rfl Try.func56 (by kernel_rfl) rfl #[.slice A0 l0.length c0] rfl (by (try simp only [List.map_toArray, List.map_cons, List.map_nil]); first | done | rfl) ?_; (with_reducible refine (dag_Edges.calls k _ _ l0 t192 _ ?side1 ?side2 A4.out).mono ?_); (case side1 => repeat (first | exact (Kd.C_below HR0.out HB.out) | (with_reducible refine Kd.C_alloc ?_ _) | (with_reducible refine Kd.C_drewN ?_ _) | (with_reducible refine Kd.C_drew ?_))); (case side2 => exact HC0.out); rintro e w7 ⟨v193, rfl, ho0, hb⟩; refine ⟨_, rfl, ?_⟩; have n0_ := As_.mk (Kd.R_lower ho0 (bY_ (by repeat (first | (with_reducible first | exact HB.out | apply bA_ | apply bN_ | apply b1_) | exact HB.out)))); have n1_ := As_.mk (bT_ (by repeat (first | (with_reducible first | exact HB.out | apply bA_ | apply bN_ | apply b1_) | exact HB.out)) hb); clear HB; have HO194 := n0_; have HB := n1_; clear n0_ n1_; (try clear ho0); obtain ⟨Ao8, co8, eo8⟩ := Kd.R_slice HO194.out; subst eo8) | ((with_reducible refine gC_ (f := 57) rfl ?_); refine goesL_ (some 10) rfl rfl Try.func57 (by kernel_rfl) rfl #[.slice A0 l0.length c0, .slice Ao8 t192.length co8] rfl (by (try simp only [List.map_toArray, List.map_cons, List.map_nil]); first | done | rfl) ?_; (with_reducible refine (dag_High.calls k _ _ l0 _ _ t192 t195 _ ?side1 ?side2 ?side3 ?side4 A5.out).mono ?_); (case side1 => repeat (first | exact (Kd.C_below HR0.out HB.out) | (with_reducible refine Kd.C_alloc ?_ _) | (with_reducible refine Kd.C_drewN ?_ _) | (with_reducible refine Kd.C_drew ?_))); (case side2 => exact HC0.out); (case side3 => repeat (first | exact (Kd.R_reads' HO194.out).2.2 | (with_reducible refine Kd.C_alloc ?_ _) | (with_reducible refine Kd.C_drewN ?_ _) | (with_reducible refine Kd.C_drew ?_))); (case side4 => exact (Kd.R_reads' HO194.out).2.1); rintro e w9 ⟨v196, rfl, ho0, hb⟩; refine ⟨_, rfl, ?_⟩; have n0_ := As_.mk (Kd.R_below (by (with_reducible repeat (first | apply Kd.R_alloc | apply Kd.R_drewN | apply Kd.R_drew)); exact HO194.out) hb); have n1_ := As_.mk (Kd.R_lower ho0 (bY_ (by repeat (first | (with_reducible first | exact HB.out | apply bA_ | apply bN_ | apply b1_) | exact HB.out)))); have n2_ := As_.mk (bT_ (by repeat (first | (with_reducible first | exact HB.out | apply bA_ | apply bN_ | apply b1_) | exact HB.out)) hb); clear HO194; clear HB; have HO194 := n0_; have HO197 := n1_; have HB := n2_; clear n0_ n1_ n2_; (try clear ho0)))
  go_ret2
  exact ⟨_, by first | rfl | (simp [eN_, eS_] <;> rfl) | (simp [*, eN_, eS_] <;> rfl), by (with_reducible repeat (first | apply Kd.R_alloc | apply Kd.R_drewN | apply Kd.R_drew)); exact HO197.out, by repeat (first | (with_reducible first | exact HB.out | apply bA_ | apply bN_ | apply b1_) | exact HB.out)⟩
 replace c3 := Bool.eq_false_iff.mpr c3
 subst c3
 have H1 : (some (([] : List Int), 1)) = some (r1, r2) := by rw [if_neg (show ¬ (false = true) by decide)] at H; exact H
 clear H
 have H := H1
 clear H1
 simp only [Option.some.injEq, Prod.mk.injEq] at H
 obtain ⟨rfl, rfl⟩ := H
 go_enter Try.func20, Try.ntmps20
 go_wp2_with (first | ((with_reducible refine gC_ (f := 55) rfl ?_); refine goesL_ (some 5) rfl rfl Try.func55 (by kernel_rfl) rfl #[.slice A0 l0.length c0] rfl (by (try simp only [List.map_toArray, List.map_cons, List.map_nil]); first | done | rfl) ?_; (with_reducible refine (dag_May.calls k _ _ l0 false _ ?side1 ?side2 A2.out).mono ?_); (case side1 => repeat (first | exact HR0.out | (with_reducible refine Kd.C_alloc ?_ _) | (with_reducible refine Kd.C_drewN ?_ _) | (with_reducible refine Kd.C_drew ?_))); (case side2 => exact HC0.out); rintro e w10 ⟨rfl, hb⟩; refine ⟨_, rfl, ?_⟩; have n0_ := As_.mk (bT_ (by repeat (first | (with_reducible first | exact HB.out | apply bA_ | apply bN_ | apply b1_) | exact HB.out)) hb); clear HB; have HB := n0_; clear n0_))
 go_ret2
 exact ⟨_, by first | rfl | (simp [eN_, eS_] <;> rfl) | (simp [*, eN_, eS_] <;> rfl), by first | exact Kd.R_nil _ _ _ _ _ | exact Kd.N_nil _ _ _ _ _ | exact Kd.V_nil _ _ _ _ _ | exact Kd.Q_nil _ _ _ _ _ | exact Kd.S_nil _ _ _ _ _, by repeat (first | (with_reducible first | exact HB.out | apply bA_ | apply bN_ | apply b1_) | exact HB.out)⟩
def w14_num.f (a0 : Int) : Option (Int) := some a0
set_option maxHeartbeats 8000000 in
set_option maxRecDepth 100000 in
theorem w14_num.calls (a0 : Int) (r : Int) (w : World) (h : w14_num.f a0 = some r) :
    Calls Try.prog 21 #[.int .i64 a0] w fun e w' => e = .returned (.int .i64 r) ∧ Dr_ w w' := by
 have H : (some a0) = some r := h
 clear h
 obtain rfl := Option.some.inj H
 go_enter Try.func21, Try.ntmps21
 go_wp2
 go_ret
 exact ⟨by first | rfl | (simp; done) | (simp [*]; done) | (simp [wrap64]; done) | (congr 1; rw [Bool.eq_iff_iff]; simp; done), by repeat (first | exact Dr_.refl _ | apply Dr_.step)⟩
mutual
def r3_Latency.j0 : Nat → Int → Bool → Option (Int)
  | 0, _, _ => none
  | k + 1, x3, x4 => if x4 = true then (some 2) else (if x3 = 20 then (r3_Latency.j1 k x3 (x3 == 20)) else (r3_Latency.j1 k x3 (x3 == 24)))
def r3_Latency.j1 : Nat → Int → Bool → Option (Int)
  | 0, _, _ => none
  | k + 1, x3, x8 => if x8 = true then (some 3) else (if x3 = 16 then (r3_Latency.j2 k (x3 == 16)) else (r3_Latency.j2 k (x3 == 17)))
def r3_Latency.j2 : Nat → Bool → Option (Int)
  | 0, _ => none
  | k + 1, x11 => if x11 = true then (some 4) else (some 1)
end
def r3_Latency.f (k : Nat) (a0 : Int) : Option (Int) := if a0 = 14 then (r3_Latency.j0 k a0 (a0 == 14)) else (if a0 = 15 then (r3_Latency.j0 k a0 (a0 == 15)) else (r3_Latency.j0 k a0 (a0 == 26)))
theorem r3_Latency.mono_l : ∀ k, (∀ y0 y1, LeO (r3_Latency.j0 k y0 y1) (r3_Latency.j0 (k + 1) y0 y1)) ∧ (∀ y0 y1, LeO (r3_Latency.j1 k y0 y1) (r3_Latency.j1 (k + 1) y0 y1)) ∧ (∀ y0, LeO (r3_Latency.j2 k y0) (r3_Latency.j2 (k + 1) y0))
  | 0 => ⟨fun _ _ r h => by simp [r3_Latency.j0] at h, fun _ _ r h => by simp [r3_Latency.j1] at h, fun _ r h => by simp [r3_Latency.j2] at h⟩
  | k + 1 => by
    obtain ⟨ih0, ih1, ih2⟩ := r3_Latency.mono_l k
    refine ⟨?_, ?_, ?_⟩
    · intro y0 y1
      unfold r3_Latency.j0
      repeat' first
      | (with_reducible exact ih0 _ _)
      | (with_reducible exact ih1 _ _)
      | (with_reducible exact ih2 _)
      | (with_reducible exact LeO.refl _)
      | (with_reducible exact LeO.none _)
      | (with_reducible refine LeO.ite ?_ ?_)
      | (with_reducible refine LeO.bind ?_ (fun _ => ?_))
      | exact LeO.none _
      | refine LeO.ite ?_ ?_
      | refine LeO.bind ?_ (fun _ => ?_)
    · intro y0 y1
      unfold r3_Latency.j1
      repeat' first
      | (with_reducible exact ih0 _ _)
      | (with_reducible exact ih1 _ _)
      | (with_reducible exact ih2 _)
      | (with_reducible exact LeO.refl _)
      | (with_reducible exact LeO.none _)
      | (with_reducible refine LeO.ite ?_ ?_)
      | (with_reducible refine LeO.bind ?_ (fun _ => ?_))
      | exact LeO.none _
      | refine LeO.ite ?_ ?_
      | refine LeO.bind ?_ (fun _ => ?_)
    · intro y0
      unfold r3_Latency.j2
      repeat' first
      | (with_reducible exact ih0 _ _)
      | (with_reducible exact ih1 _ _)
      | (with_reducible exact ih2 _)
      | (with_reducible exact LeO.refl _)
      | (with_reducible exact LeO.none _)
      | (with_reducible refine LeO.ite ?_ ?_)
      | (with_reducible refine LeO.bind ?_ (fun _ => ?_))
      | exact LeO.none _
      | refine LeO.ite ?_ ?_
      | refine LeO.bind ?_ (fun _ => ?_)
theorem r3_Latency.mono : ∀ a0 k, LeO (r3_Latency.f k a0) (r3_Latency.f (k + 1) a0) := by
 intro a0 k
 obtain ⟨ih0, ih1, ih2⟩ := r3_Latency.mono_l k
 unfold r3_Latency.f
 repeat' first
  | (with_reducible exact ih0 _ _)
  | (with_reducible exact ih1 _ _)
  | (with_reducible exact ih2 _)
  | (with_reducible exact LeO.refl _)
  | (with_reducible exact LeO.none _)
  | (with_reducible refine LeO.ite ?_ ?_)
  | (with_reducible refine LeO.bind ?_ (fun _ => ?_))
  | exact LeO.none _
  | refine LeO.ite ?_ ?_
  | refine LeO.bind ?_ (fun _ => ?_)
set_option maxHeartbeats 8000000 in
set_option maxRecDepth 100000 in
theorem r3_Latency.calls (k : Nat) (a0 : Int) (r : Int) (w : World) (h : r3_Latency.f k a0 = some r) :
    Calls Try.prog 27 #[.int .i64 a0] w fun e w' => e = .returned (.int .i64 r) ∧ Dr_ w w' := by
 have H : (if a0 = 14 then (r3_Latency.j0 k a0 (a0 == 14)) else (if a0 = 15 then (r3_Latency.j0 k a0 (a0 == 15)) else (r3_Latency.j0 k a0 (a0 == 26)))) = some r := h
 clear h
 have HC2 := As_.mk H
 clear H
 go_enter Try.func27, Try.ntmps27
 go_upto_if 4 with (fail)
 go_cut [4] (fun v4 wc => ∃ (kq : Nat) (x4_1 : Bool), v4 = .bool x4_1 ∧ As_ (r3_Latency.j0 kq a0 x4_1 = some r) ∧ As_ (kq ≤ k) ∧ Dr_ w wc)
 case first =>
  have H := HC2.out
  clear HC2
  by_cases c3 : a0 = 14
  ·rw [if_pos c3] at H
   have c3b0 : (a0 == 14) = true := beq_iff_eq.mpr c3
   have c3b1 : (a0 != 14) = false := bne_eq_false_iff_eq.mpr c3
   clear c3
   (first | rw [c3b0] | (simp only [i64_w, i32_w]; rw [c3b0]) | skip)
   have H' := As_.mk H
   clear H
   go_wp2
   go_meet
   case rel => exact ⟨_, ((a0 == 14)), (by first | rfl | (simp; done) | (simp [*]; done) | (simp [wrap64]; done) | (congr 1; rw [Bool.eq_iff_iff]; simp; done)), H', ⟨by first | omega | exact Nat.le_refl _⟩, by repeat (first | exact Dr_.refl _ | apply Dr_.step)⟩
  rw [if_neg c3] at H
  have c3b0 : (a0 == 14) = false := beq_eq_false_iff_ne.mpr c3
  have c3b1 : (a0 != 14) = true := bne_iff_ne.mpr c3
  (first | rw [c3b0] | (simp only [i64_w, i32_w]; rw [c3b0]) | skip)
  by_cases c4 : a0 = 15
  ·rw [if_pos c4] at H
   have c4b0 : (a0 == 15) = true := beq_iff_eq.mpr c4
   have c4b1 : (a0 != 15) = false := bne_eq_false_iff_eq.mpr c4
   clear c4
   have H' := As_.mk H
   clear H
   go_wp2
   go_meet
   case rel => exact ⟨_, ((a0 == 15)), (by first | rfl | (simp; done) | (simp [*]; done) | (simp [wrap64]; done) | (congr 1; rw [Bool.eq_iff_iff]; simp; done)), H', ⟨by first | omega | exact Nat.le_refl _⟩, by repeat (first | exact Dr_.refl _ | apply Dr_.step)⟩
  rw [if_neg c4] at H
  have c4b0 : (a0 == 15) = false := beq_eq_false_iff_ne.mpr c4
  have c4b1 : (a0 != 15) = true := bne_iff_ne.mpr c4
  have H' := As_.mk H
  clear H
  go_wp2
  go_meet
  case rel => exact ⟨_, ((a0 == 26)), (by first | rfl | (simp; done) | (simp [*]; done) | (simp [wrap64]; done) | (congr 1; rw [Bool.eq_iff_iff]; simp; done)), H', ⟨by first | omega | exact Nat.le_refl _⟩, by repeat (first | exact Dr_.refl _ | apply Dr_.step)⟩
 case rest =>
  clear HC2
  obtain ⟨kq, x4_1, rfl, HA, HJ1, ⟨mc1, rfl⟩⟩ := hcut
  cases kq with
  | zero => exact absurd HA.out (by simp [r3_Latency.j0])
  | succ kj1 =>
   have H := HA.out
   clear HA
   simp only [r3_Latency.j0] at H
   by_cases c5 : x4_1 = true
   ·subst c5
    have H1 : (some 2) = some r := by rw [if_pos rfl] at H; exact H
    clear H
    have H := H1
    clear H1
    obtain rfl := Option.some.inj H
    go_wp2
    go_ret
    exact ⟨by first | rfl | (simp; done) | (simp [*]; done) | (simp [wrap64]; done) | (congr 1; rw [Bool.eq_iff_iff]; simp; done), by repeat (first | exact Dr_.refl _ | apply Dr_.step)⟩
   replace c5 := Bool.eq_false_iff.mpr c5
   subst c5
   have H1 : (if a0 = 20 then (r3_Latency.j1 kj1 a0 (a0 == 20)) else (r3_Latency.j1 kj1 a0 (a0 == 24))) = some r := by rw [if_neg (show ¬ (false = true) by decide)] at H; exact H
   clear H
   have H := H1
   clear H1
   have HC6 := As_.mk H
   clear H
   go_upto_if 8 with (fail)
   go_cut [8] (fun v8 wc => ∃ (kq : Nat) (x8_5 : Bool), v8 = .bool x8_5 ∧ As_ (r3_Latency.j1 kq a0 x8_5 = some r) ∧ As_ (kq ≤ kj1) ∧ Dr_ w wc)
   case first =>
    have H := HC6.out
    clear HC6
    by_cases c7 : a0 = 20
    ·rw [if_pos c7] at H
     have c7b0 : (a0 == 20) = true := beq_iff_eq.mpr c7
     have c7b1 : (a0 != 20) = false := bne_eq_false_iff_eq.mpr c7
     clear c7
     (first | rw [c7b0] | (simp only [i64_w, i32_w]; rw [c7b0]) | skip)
     have H' := As_.mk H
     clear H
     go_wp2
     go_meet
     case rel => exact ⟨_, ((a0 == 20)), (by first | rfl | (simp; done) | (simp [*]; done) | (simp [wrap64]; done) | (congr 1; rw [Bool.eq_iff_iff]; simp; done)), H', ⟨by have := HJ1.out; first | omega | exact Nat.le_refl _⟩, by repeat (first | exact Dr_.refl _ | apply Dr_.step)⟩
    rw [if_neg c7] at H
    have c7b0 : (a0 == 20) = false := beq_eq_false_iff_ne.mpr c7
    have c7b1 : (a0 != 20) = true := bne_iff_ne.mpr c7
    (first | rw [c7b0] | (simp only [i64_w, i32_w]; rw [c7b0]) | skip)
    have H' := As_.mk H
    clear H
    go_wp2
    go_meet
    case rel => exact ⟨_, ((a0 == 24)), (by first | rfl | (simp; done) | (simp [*]; done) | (simp [wrap64]; done) | (congr 1; rw [Bool.eq_iff_iff]; simp; done)), H', ⟨by have := HJ1.out; first | omega | exact Nat.le_refl _⟩, by repeat (first | exact Dr_.refl _ | apply Dr_.step)⟩
   case rest =>
    clear HC6
    obtain ⟨kq, x8_5, rfl, HA, HJ5, ⟨mc5, rfl⟩⟩ := hcut
    cases kq with
    | zero => exact absurd HA.out (by simp [r3_Latency.j1])
    | succ kj5 =>
     have H := HA.out
     clear HA
     simp only [r3_Latency.j1] at H
     by_cases c8 : x8_5 = true
     ·subst c8
      have H1 : (some 3) = some r := by rw [if_pos rfl] at H; exact H
      clear H
      have H := H1
      clear H1
      obtain rfl := Option.some.inj H
      go_wp2
      go_ret
      exact ⟨by first | rfl | (simp; done) | (simp [*]; done) | (simp [wrap64]; done) | (congr 1; rw [Bool.eq_iff_iff]; simp; done), by repeat (first | exact Dr_.refl _ | apply Dr_.step)⟩
     replace c8 := Bool.eq_false_iff.mpr c8
     subst c8
     have H1 : (if a0 = 16 then (r3_Latency.j2 kj5 (a0 == 16)) else (r3_Latency.j2 kj5 (a0 == 17))) = some r := by rw [if_neg (show ¬ (false = true) by decide)] at H; exact H
     clear H
     have H := H1
     clear H1
     have HC9 := As_.mk H
     clear H
     go_upto_if 11 with (fail)
     go_cut [11] (fun v11 wc => ∃ (kq : Nat) (x11_8 : Bool), v11 = .bool x11_8 ∧ As_ (r3_Latency.j2 kq x11_8 = some r) ∧ As_ (kq ≤ kj5) ∧ Dr_ w wc)
     case first =>
      have H := HC9.out
      clear HC9
      by_cases c10 : a0 = 16
      ·rw [if_pos c10] at H
       have c10b0 : (a0 == 16) = true := beq_iff_eq.mpr c10
       have c10b1 : (a0 != 16) = false := bne_eq_false_iff_eq.mpr c10
       clear c10
       (first | rw [c10b0] | (simp only [i64_w, i32_w]; rw [c10b0]) | skip)
       have H' := As_.mk H
       clear H
       go_wp2
       go_meet
       case rel => exact ⟨_, ((a0 == 16)), (by first | rfl | (simp; done) | (simp [*]; done) | (simp [wrap64]; done) | (congr 1; rw [Bool.eq_iff_iff]; simp; done)), H', ⟨by have := HJ1.out; have := HJ5.out; first | omega | exact Nat.le_refl _⟩, by repeat (first | exact Dr_.refl _ | apply Dr_.step)⟩
      rw [if_neg c10] at H
      have c10b0 : (a0 == 16) = false := beq_eq_false_iff_ne.mpr c10
      have c10b1 : (a0 != 16) = true := bne_iff_ne.mpr c10
      (first | rw [c10b0] | (simp only [i64_w, i32_w]; rw [c10b0]) | skip)
      have H' := As_.mk H
      clear H
      go_wp2
      go_meet
      case rel => exact ⟨_, ((a0 == 17)), (by first | rfl | (simp; done) | (simp [*]; done) | (simp [wrap64]; done) | (congr 1; rw [Bool.eq_iff_iff]; simp; done)), H', ⟨by have := HJ1.out; have := HJ5.out; first | omega | exact Nat.le_refl _⟩, by repeat (first | exact Dr_.refl _ | apply Dr_.step)⟩
     case rest =>
      clear HC9
      obtain ⟨kq, x11_8, rfl, HA, HJ8, ⟨mc8, rfl⟩⟩ := hcut
      cases kq with
      | zero => exact absurd HA.out (by simp [r3_Latency.j2])
      | succ kj8 =>
       have H := HA.out
       clear HA
       simp only [r3_Latency.j2] at H
       by_cases c11 : x11_8 = true
       ·subst c11
        have H1 : (some 4) = some r := by rw [if_pos rfl] at H; exact H
        clear H
        have H := H1
        clear H1
        obtain rfl := Option.some.inj H
        go_wp2
        go_ret
        exact ⟨by first | rfl | (simp; done) | (simp [*]; done) | (simp [wrap64]; done) | (congr 1; rw [Bool.eq_iff_iff]; simp; done), by repeat (first | exact Dr_.refl _ | apply Dr_.step)⟩
       replace c11 := Bool.eq_false_iff.mpr c11
       subst c11
       have H1 : (some 1) = some r := by rw [if_neg (show ¬ (false = true) by decide)] at H; exact H
       clear H
       have H := H1
       clear H1
       obtain rfl := Option.some.inj H
       go_wp2
       go_ret
       exact ⟨by first | rfl | (simp; done) | (simp [*]; done) | (simp [wrap64]; done) | (congr 1; rw [Bool.eq_iff_iff]; simp; done), by repeat (first | exact Dr_.refl _ | apply Dr_.step)⟩
end Go.Proofs.Ytibfkkjkahpobaa.PDag
