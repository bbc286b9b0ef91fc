import Derived.Test.YtibfkkjkahpobaaHx15
import Derived.Test.YtibfkkjkahpobaaHx17
import Derived.Test.YtibfkkjkahpobaaHx19
import Derived.Test.YtibfkkjkahpobaaHx20
set_option linter.unusedVariables false
set_option linter.unusedSimpArgs false
set_option maxHeartbeats 8000000
set_option maxRecDepth 100000
namespace Go.Proofs.Ytibfkkjkahpobaa.PDag
open Go.RowKit Go.Proofs.YtibfkkjkahpobaaW.PrintWords Go.Proofs.YtibfkkjkahpobaaW.PrintLast Go.Proofs.YtibfkkjkahpobaaW.PrintMore
attribute [local go_sem] max2_int min2_int max_two min_two max_three min_three max_four min_four
attribute [local go_sem high] eqA51
mutual
def dag_Edges.l0 : Nat → List (S24) → List (S51) → List (S24) → Int → Int → Option ((List (S51)))
  | 0, _, _, _, _, _ => none
  | k + 1, x0, x2, x8, x9, x10 => if x10 < x9 then (if 0 ≤ x10 then (if x10 < (x8.length : Int) then (if 0 ≤ (wrap64 (x10 + 1)) then (if (wrap64 (x10 + 1)) ≤ (x0.length : Int) then ((some (x0.drop ((wrap64 (x10 + 1)) : Int).toNat : List (S24))).bind fun y171 => (dag_Edges.l1 k x0 x2 x10 x8 x9 x10 y171 (y171.length : Int) 0 ((J24 x8 x10).f0) ((J24 x8 x10).f1) ((J24 x8 x10).f2) ((J24 x8 x10).f3) ((J24 x8 x10).f4) ((J24 x8 x10).f5))) else (none)) else (none)) else (none)) else (none)) else (some x2)
def dag_Edges.l1 : Nat → List (S24) → List (S51) → Int → List (S24) → Int → Int → List (S24) → Int → Int → Int → Int → Int → Int → Int → ByteArray → Option ((List (S51)))
  | 0, _, _, _, _, _, _, _, _, _, _, _, _, _, _, _ => none
  | k + 1, x0, x2, x3, x8, x9, x10, x18, x19, x20, x171a, x171b, x171c, x171d, x171e, x171f => if x20 < x19 then (if 0 ≤ x20 then (if x20 < (x18.length : Int) then ((dag_dist.f k x171a x171b x171c x171d x171e x171f ((J24 x18 x20).f0) ((J24 x18 x20).f1) ((J24 x18 x20).f2) ((J24 x18 x20).f3) ((J24 x18 x20).f4) ((J24 x18 x20).f5)).bind fun t177 => (if t177 ≥ 0 then (if x2.length < 5864062014805 then (dag_Edges.l1 k x0 (x2 ++ [(⟨x3, wrap64 ((wrap64 (x3 + 1)) + x20), t177⟩ : S51)]) x3 x8 x9 x10 x18 x19 (wrap64 (x20 + 1)) x171a x171b x171c x171d x171e x171f) else (none)) else (dag_Edges.l1 k x0 x2 x3 x8 x9 x10 x18 x19 (wrap64 (x20 + 1)) x171a x171b x171c x171d x171e x171f))) else (none)) else (none)) else (dag_Edges.l0 k x0 x2 x8 x9 (wrap64 (x10 + 1)))
end
def dag_Edges.f (k : Nat) (l0 : List (S24)) : Option ((List (S51))) := dag_Edges.l0 k l0 ([] : List (S51)) l0 (l0.length : Int) 0
theorem dag_Edges.mono_l : ∀ k, (∀ y0 y1 y2 y3 y4, LeO (dag_Edges.l0 k y0 y1 y2 y3 y4) (dag_Edges.l0 (k + 1) y0 y1 y2 y3 y4)) ∧ (∀ y0 y1 y2 y3 y4 y5 y6 y7 y8 y9 y10 y11 y12 y13 y14, LeO (dag_Edges.l1 k y0 y1 y2 y3 y4 y5 y6 y7 y8 y9 y10 y11 y12 y13 y14) (dag_Edges.l1 (k + 1) y0 y1 y2 y3 y4 y5 y6 y7 y8 y9 y10 y11 y12 y13 y14))
  | 0 => ⟨fun _ _ _ _ _ r h => by simp [dag_Edges.l0] at h, fun _ _ _ _ _ _ _ _ _ _ _ _ _ _ _ r h => by simp [dag_Edges.l1] at h⟩
  | k + 1 => by
    obtain ⟨ih0, ih1⟩ := dag_Edges.mono_l k
    refine ⟨?_, ?_⟩
    · intro y0 y1 y2 y3 y4
      unfold dag_Edges.l0
      repeat' first
      | (with_reducible exact ih0 _ _ _ _ _)
      | (with_reducible exact ih1 _ _ _ _ _ _ _ _ _ _ _ _ _ _ _)
      | (with_reducible exact dag_dist.mono _ _ _ _ _ _ _ _ _ _ _ _ _)
      | (with_reducible exact LeO.refl _)
      | (with_reducible exact LeO.none _)
      | (with_reducible refine LeO.ite ?_ ?_)
      | (with_reducible refine LeO.bind ?_ (fun _ => ?_))
      | exact LeO.none _
      | refine LeO.ite ?_ ?_
      | refine LeO.bind ?_ (fun _ => ?_)
    · intro y0 y1 y2 y3 y4 y5 y6 y7 y8 y9 y10 y11 y12 y13 y14
      unfold dag_Edges.l1
      repeat' first
      | (with_reducible exact ih0 _ _ _ _ _)
      | (with_reducible exact ih1 _ _ _ _ _ _ _ _ _ _ _ _ _ _ _)
      | (with_reducible exact dag_dist.mono _ _ _ _ _ _ _ _ _ _ _ _ _)
      | (with_reducible exact LeO.refl _)
      | (with_reducible exact LeO.none _)
      | (with_reducible refine LeO.ite ?_ ?_)
      | (with_reducible refine LeO.bind ?_ (fun _ => ?_))
      | exact LeO.none _
      | refine LeO.ite ?_ ?_
      | refine LeO.bind ?_ (fun _ => ?_)
theorem dag_Edges.mono : ∀ a0 k, LeO (dag_Edges.f k a0) (dag_Edges.f (k + 1) a0) := by
 intro a0 k
 obtain ⟨ih0, ih1⟩ := dag_Edges.mono_l k
 unfold dag_Edges.f
 repeat' first
  | (with_reducible exact ih0 _ _ _ _ _)
  | (with_reducible exact ih1 _ _ _ _ _ _ _ _ _ _ _ _ _ _ _)
  | (with_reducible exact dag_dist.mono _ _ _ _ _ _ _ _ _ _ _ _ _)
  | (with_reducible exact LeO.refl _)
  | (with_reducible exact LeO.none _)
  | (with_reducible refine LeO.ite ?_ ?_)
  | (with_reducible refine LeO.bind ?_ (fun _ => ?_))
  | exact LeO.none _
  | refine LeO.ite ?_ ?_
  | refine LeO.bind ?_ (fun _ => ?_)
theorem dag_Edges.calls (k : Nat) (A0 : Option Addr) (c0 : Nat) (l0 : List (S24)) (r : List (S51)) (w : World) (hr0 : Kd.C k24 w A0 l0.length l0) (hc0 : l0.length ≤ c0) (h : dag_Edges.f k l0 = some r) :
    Calls Try.prog 56 #[.slice A0 l0.length c0] w fun e w' => ∃ v0_ : Value, e = .returned (v0_) ∧ Kd.R k51 51 w' w.heap.size (fun _ => True) v0_ r ∧ Below w.heap.size w w' := by
 have hu24 := Try.underlying24
 have hu51 := Try.underlying51
 have HR0 := aM_ hr0
 have HC0 := aM_ hc0
 clear hr0 hc0
 have HB := aM_ (Below.refl w.heap.size w)
 have H : (dag_Edges.l0 k l0 ([] : List (S51)) l0 (l0.length : Int) 0) = some r := h
 clear h
 replace H := aM_ H
 go_enter Try.func56, Try.ntmps56
 go_wp2
 go_loopg [2, 10] k (fun kq v2 v10 w' => ∃ (x2_1 : List (S51)) (x10_1 : Int), v10 = .int .i64 x10_1 ∧ As_ (dag_Edges.l0 kq l0 x2_1 l0 (l0.length : Int) x10_1 = some r) ∧ As_ (kq ≤ k) ∧ As_ (Kd.R k51 51 w' w.heap.size (fun _ => True) v2 x2_1) ∧ As_ (Below w.heap.size w w'))
 case atStart => exact ⟨(([] : List (S51))), (0), eQ_, H, ⟨Nat.le_refl _⟩, ⟨by first | exact Kd.R_nil _ _ _ _ _ | exact Kd.N_nil _ _ _ _ _ | exact Kd.V_nil _ _ _ _ _ | exact Kd.Q_nil _ _ _ _ _ | exact Kd.S_nil _ _ _ _ _⟩, ⟨bl_ HB⟩⟩
 case round =>
  clear H
  obtain ⟨x2_1, x10_1, rfl, HA, HK1, HO_2, HB⟩ := hrel
  cases gk with
  | zero => exact absurd HA.out (by simp [dag_Edges.l0])
  | succ k1 =>
   have H := HA.out
   clear HA
   simp only [dag_Edges.l0] at H
   by_cases c2 : x10_1 < (l0.length : Int)
   ·rw [if_pos c2] at H
    have c2b0 := dE_ c2
    clear c2
    by_cases c3 : 0 ≤ x10_1
    ·rw [if_pos c3] at H
     have c3b0 := dE_ c3
     clear c3
     by_cases c4 : x10_1 < (l0.length : Int)
     ·rw [if_pos c4] at H
      have c4b0 := dE_ c4
      clear c4
      obtain ⟨ji5, hji5⟩ : ∃ j_ : Int, (wrap64 (x10_1 + 1)) = j_ := ⟨_, rfl⟩
      replace H : (if 0 ≤ (ji5) then (if (ji5) ≤ (l0.length : Int) then ((some (l0.drop ((ji5) : Int).toNat : List (S24))).bind fun y171 => (dag_Edges.l1 k1 l0 x2_1 x10_1 l0 (l0.length : Int) x10_1 y171 (y171.length : Int) 0 ((J24 l0 x10_1).f0) ((J24 l0 x10_1).f1) ((J24 l0 x10_1).f2) ((J24 l0 x10_1).f3) ((J24 l0 x10_1).f4) ((J24 l0 x10_1).f5))) else (none)) else (none)) = some r := by first | (rw [hji5] at H; exact H) | (simp only [hji5] at H ⊢; exact H)
      have hji5w : (IntKind.i64.wrap (x10_1 + 1)) = ji5 := (i64_w _).trans hji5
      by_cases c6 : 0 ≤ (ji5)
      ·rw [if_pos c6] at H
       have c6b0 := eq_true c6
       have c6b1 := dE_ c6
       clear c6
       by_cases c7 : (ji5) ≤ (l0.length : Int)
       ·rw [if_pos c7] at H
        have c7b0 := eq_true c7
        have c7b1 := dE_ c7
        clear c7
        obtain ⟨y171, hy171⟩ : ∃ y_ : List (S24), y_ = (l0.drop ((ji5) : Int).toNat) := ⟨_, rfl⟩
        replace H : (dag_Edges.l1 k1 l0 x2_1 x10_1 l0 (l0.length : Int) x10_1 y171 (y171.length : Int) 0 ((J24 l0 x10_1).f0) ((J24 l0 x10_1).f1) ((J24 l0 x10_1).f2) ((J24 l0 x10_1).f3) ((J24 l0 x10_1).f4) ((J24 l0 x10_1).f5)) = some r := by first | (rw [hy171]; with_reducible exact H) | (have H2_ := (Option.bind_some _ _).symm.trans H; rw [hy171]; with_reducible exact H2_) | (have H2_ := (Option.bind_some _ _).symm.trans H; with_reducible exact H2_) | with_reducible exact H | (rw [hy171]; exact H) | exact H
        have Ny171 := aM_ hy171
        clear hy171
        replace H := aM_ H
        have p169 : 0 ≤ (x10_1 : Int) := oD_
        have q169 : x10_1 < (l0.length : Int) := oD_
        obtain ⟨ad169, e169, hx169_0, hx169_1, hx169_2, hx169_3, hx169_4, hx169_5⟩ := at_T24 HR0.out x10_1 p169 q169
        cases e169
        replace hx169_0 := hC_ HB hx169_0
        replace hx169_1 := hC_ HB hx169_1
        replace hx169_2 := hC_ HB hx169_2
        replace hx169_3 := hC_ HB hx169_3
        replace hx169_4 := hC_ HB hx169_4
        replace hx169_5 := hC_ HB hx169_5
        replace p169 := eq_true p169
        replace q169 := eq_true q169
        go_wp2_with (first | ((with_reducible refine gate_dst (N := 4) rfl ?_); refine bX_ (N := 4) (cs := #[.int .i64 0, .int .i64 0, .int .i64 0, .int .i64 0, .int .i64 0, .string (⟨#[]⟩ : ByteArray)]) (t := 24) ?_; intro gb170 hg w8 hbox hb; replace HO_2 := aM_ (Kd.R_below (rR_ HO_2) hb); replace BK170 := aM_ (hbox); replace GW170 := aM_ (gE_ hg (bl_ HB)); replace GE170 := aM_ (gE_ hg (bl_ HB)); replace HB := aM_ (bT_ (bl_ HB) hb); clear hb hbox hg; obtain ⟨hcz9_0, hcz9_1, hcz9_2, hcz9_3, hcz9_4, hcz9_5⟩ := cl6_ BK170.out; obtain ⟨hfz9_0, hfz9_1, hfz9_2, hfz9_3, hfz9_4, hfz9_5⟩ := fz6_ BK170.out) | ((with_reducible refine gate_store (t := 24) (p := 4) rfl ?_); refine store_event (t := 24) (p := 4) (v := ?vo_w10) (w1 := ((((((w8.setCell ⟨gb170, 0, none⟩ (.int .i64 ((J24 l0 x10_1).f0))).setCell ⟨gb170, 1, none⟩ (.int .i64 ((J24 l0 x10_1).f1))).setCell ⟨gb170, 2, none⟩ (.int .i64 ((J24 l0 x10_1).f2))).setCell ⟨gb170, 3, none⟩ (.int .i64 ((J24 l0 x10_1).f3))).setCell ⟨gb170, 4, none⟩ (.int .i64 ((J24 l0 x10_1).f4))).setCell ⟨gb170, 5, none⟩ (.string ((J24 l0 x10_1).f5)))) ?hg ?ho ?hn ?hr ?_; (case ho => rfl); (case hg => rfl); (case hn => rfl); (case hr => first | (go_simp; done) | (go_simp; rfl)); intro w10 hw; replace HO_2 : As_ (Kd.R k51 51 w10 w.heap.size (fun _ => True) u2 x2_1) := ⟨(by rw [hw]; exact (by (with_reducible repeat (first | apply Kd.R_alloc | apply Kd.R_drewN | apply Kd.R_drew)); exact Kd.R_mono (Kd.R_far (p := ⟨gb170, 5, none⟩) (Kd.R_far (p := ⟨gb170, 4, none⟩) (Kd.R_far (p := ⟨gb170, 3, none⟩) (Kd.R_far (p := ⟨gb170, 2, none⟩) (Kd.R_far (p := ⟨gb170, 1, none⟩) (Kd.R_far (p := ⟨gb170, 0, none⟩) (Kd.R_types HO_2.out BK170.out (by decide)) (fun _ hk => hk.2) (.int .i64 ((J24 l0 x10_1).f0))) (fun _ hk => hk.2) (.int .i64 ((J24 l0 x10_1).f1))) (fun _ hk => hk.2) (.int .i64 ((J24 l0 x10_1).f2))) (fun _ hk => hk.2) (.int .i64 ((J24 l0 x10_1).f3))) (fun _ hk => hk.2) (.int .i64 ((J24 l0 x10_1).f4))) (fun _ hk => hk.2) (.string ((J24 l0 x10_1).f5))) (fun _ hk => trivial)))⟩; replace BK170 : As_ (w10.heap[gb170]? = some (.cells #[.int .i64 ((J24 l0 x10_1).f0), .int .i64 ((J24 l0 x10_1).f1), .int .i64 ((J24 l0 x10_1).f2), .int .i64 ((J24 l0 x10_1).f3), .int .i64 ((J24 l0 x10_1).f4), .string ((J24 l0 x10_1).f5)] 24 (0, 0))) := ⟨(by rw [hw]; exact (by (with_reducible repeat (first | refine kN_ ?_ _ | refine kD_ ?_ | refine kA_ ?_ _)); refine blk_put (cs := #[.int .i64 ((J24 l0 x10_1).f0), .int .i64 ((J24 l0 x10_1).f1), .int .i64 ((J24 l0 x10_1).f2), .int .i64 ((J24 l0 x10_1).f3), .int .i64 ((J24 l0 x10_1).f4), .string (⟨#[]⟩ : ByteArray)]) ?_ 5 _ rfl; (with_reducible repeat (first | refine kN_ ?_ _ | refine kD_ ?_ | refine kA_ ?_ _)); refine blk_put (cs := #[.int .i64 ((J24 l0 x10_1).f0), .int .i64 ((J24 l0 x10_1).f1), .int .i64 ((J24 l0 x10_1).f2), .int .i64 ((J24 l0 x10_1).f3), .int .i64 0, .string (⟨#[]⟩ : ByteArray)]) ?_ 4 _ rfl; (with_reducible repeat (first | refine kN_ ?_ _ | refine kD_ ?_ | refine kA_ ?_ _)); refine blk_put (cs := #[.int .i64 ((J24 l0 x10_1).f0), .int .i64 ((J24 l0 x10_1).f1), .int .i64 ((J24 l0 x10_1).f2), .int .i64 0, .int .i64 0, .string (⟨#[]⟩ : ByteArray)]) ?_ 3 _ rfl; (with_reducible repeat (first | refine kN_ ?_ _ | refine kD_ ?_ | refine kA_ ?_ _)); refine blk_put (cs := #[.int .i64 ((J24 l0 x10_1).f0), .int .i64 ((J24 l0 x10_1).f1), .int .i64 0, .int .i64 0, .int .i64 0, .string (⟨#[]⟩ : ByteArray)]) ?_ 2 _ rfl; (with_reducible repeat (first | refine kN_ ?_ _ | refine kD_ ?_ | refine kA_ ?_ _)); refine blk_put (cs := #[.int .i64 ((J24 l0 x10_1).f0), .int .i64 0, .int .i64 0, .int .i64 0, .int .i64 0, .string (⟨#[]⟩ : ByteArray)]) ?_ 1 _ rfl; (with_reducible repeat (first | refine kN_ ?_ _ | refine kD_ ?_ | refine kA_ ?_ _)); refine blk_put (cs := #[.int .i64 0, .int .i64 0, .int .i64 0, .int .i64 0, .int .i64 0, .string (⟨#[]⟩ : ByteArray)]) ?_ 0 _ rfl; (with_reducible repeat (first | refine kN_ ?_ _ | refine kD_ ?_ | refine kA_ ?_ _)); exact BK170.out))⟩; replace HB : As_ (Below w.heap.size w w10) := ⟨(by rw [hw]; exact (bs_ HB GE170))⟩; clear hw; have q11 : ((ji5) : Int) ≤ ((l0.length : Int) : Int) := oD_; obtain ⟨i011, hi011, _, hsz11, _⟩ := info_parts info24; have hroom11 : l0.length ≤ c0 := HC0.out; have hC11 : Kd.C k24 _ (some ad169) l0.length l0 := HR0.out; have q011 : (0 : Int) ≤ ((ji5) : Int) := oD_; have hcut11 := cut_from (P := Try.prog) 22 24 .i64 Try.underlying22 hi011 6 hsz11 (some ad169) l0.length c0 (ji5) q011 q11; have hr11 := Kd.C_drop (m := ((ji5) : Int).toNat) (c := c0) hC11 (by omega) hroom11; obtain ⟨A11, hA11⟩ : ∃ A1, A1 = (if c0 = ((ji5) : Int).toNat then (some ad169) else ((some ad169) : Option Addr).map (·.add (((ji5) : Int).toNat * 6))) := ⟨_, rfl⟩; obtain ⟨c11, hc11⟩ : ∃ c1, c1 = c0 - ((ji5) : Int).toNat := ⟨_, rfl⟩; have hy11 : y171.length = l0.length - ((ji5) : Int).toNat := (by rw [Ny171.out, List.length_drop] <;> omega); rw [show (l0).drop ((ji5) : Int).toNat = y171 from Ny171.out.symm] at hr11; replace hr11 : Kd.C k24 _ A11 y171.length y171 := (by rw [hA11]; exact hr11); rw [← hy11, ← hA11, ← hc11] at hcut11; have HR174 := aM_ hr11; have HC174 := aM_ (show y171.length ≤ c11 from by rw [hy11, hc11]; exact Nat.sub_le_sub_right hroom11 _); clear hr11 hC11 hroom11 hi011 hsz11 hc11; have KY11 := aM_ hy11; have KA11 := aM_ hA11; clear hy11 hA11; replace q11 := eq_true q11))
        go_loopg [2, 20] k1 (fun kq v2 v20 w' => ∃ (x2_2 : List (S51)) (x20_2 : Int), v20 = .int .i64 x20_2 ∧ As_ (dag_Edges.l1 kq l0 x2_2 x10_1 l0 (l0.length : Int) x10_1 y171 (y171.length : Int) x20_2 ((J24 l0 x10_1).f0) ((J24 l0 x10_1).f1) ((J24 l0 x10_1).f2) ((J24 l0 x10_1).f3) ((J24 l0 x10_1).f4) ((J24 l0 x10_1).f5) = some r) ∧ As_ (kq ≤ k1) ∧ As_ (Kd.R k51 51 w' w.heap.size (fun _ => True) v2 x2_2) ∧ As_ (w'.heap[gb170]? = some (.cells #[.int .i64 ((J24 l0 x10_1).f0), .int .i64 ((J24 l0 x10_1).f1), .int .i64 ((J24 l0 x10_1).f2), .int .i64 ((J24 l0 x10_1).f3), .int .i64 ((J24 l0 x10_1).f4), .string ((J24 l0 x10_1).f5)] 24 (0, 0))) ∧ As_ (Below w.heap.size w w'))
        case atStart => exact ⟨(x2_1), (0), eQ_, H, ⟨Nat.le_refl _⟩, ⟨rR_ HO_2⟩, ⟨rB_ BK170⟩, ⟨bs_ HB GE170⟩⟩
        case round =>
         clear H
         obtain ⟨x2_2, x20_2, rfl, HA, HK2, HO_2, BK170, HB⟩ := hrel
         cases gk with
         | zero => exact absurd HA.out (by simp [dag_Edges.l1])
         | succ k2 =>
          have H := HA.out
          clear HA
          simp only [dag_Edges.l1] at H
          by_cases c12 : x20_2 < (y171.length : Int)
          ·rw [if_pos c12] at H
           have c12b0 := dE_ c12
           clear c12
           by_cases c13 : 0 ≤ x20_2
           ·rw [if_pos c13] at H
            have c13b0 := dE_ c13
            clear c13
            by_cases c14 : x20_2 < (y171.length : Int)
            ·rw [if_pos c14] at H
             have c14b0 := dE_ c14
             clear c14
             replace H := oB_ H
             obtain ⟨t177, A15, H⟩ := H
             by_cases c16 : t177 ≥ 0
             ·rw [if_pos c16] at H
              have c16b0 := dE_ c16
              clear c16
              by_cases c17 : x2_2.length < 5864062014805
              ·rw [if_pos c17] at H
               have LMc17 := aM_ c17
               clear c17
               obtain ⟨y178, hy178⟩ : ∃ y_ : List (S51), y_ = (x2_2 ++ [(⟨x10_1, wrap64 ((wrap64 (x10_1 + 1)) + x20_2), t177⟩ : S51)]) := ⟨_, rfl⟩
               replace H : (dag_Edges.l1 k2 l0 y178 x10_1 l0 (l0.length : Int) x10_1 y171 (y171.length : Int) (wrap64 (x20_2 + 1)) ((J24 l0 x10_1).f0) ((J24 l0 x10_1).f1) ((J24 l0 x10_1).f2) ((J24 l0 x10_1).f3) ((J24 l0 x10_1).f4) ((J24 l0 x10_1).f5)) = some r := by first | (rw [hy178]; with_reducible exact H) | (have H2_ := (Option.bind_some _ _).symm.trans H; rw [hy178]; with_reducible exact H2_) | (have H2_ := (Option.bind_some _ _).symm.trans H; with_reducible exact H2_) | with_reducible exact H | (rw [hy178]; exact H) | exact H
               rw [hji5] at hy178
               have Ny178 := aM_ hy178
               clear hy178
               replace H := aM_ H
               have p175 : 0 ≤ (x20_2 : Int) := oD_
               have q175 : x20_2 < (y171.length : Int) := oD_
               obtain ⟨ad175, e175, hx175_0, hx175_1, hx175_2, hx175_3, hx175_4, hx175_5⟩ := at_T24 HR174.out x20_2 p175 q175
               cases e175
               replace hx175_0 := hC_ HB hx175_0
               replace hx175_1 := hC_ HB hx175_1
               replace hx175_2 := hC_ HB hx175_2
               replace hx175_3 := hC_ HB hx175_3
               replace hx175_4 := hC_ HB hx175_4
               replace hx175_5 := hC_ HB hx175_5
               replace p175 := eq_true p175
               replace q175 := eq_true q175
               go_wp2_with (first | ((with_reducible refine gate_dst (N := 6) rfl ?_); refine bX_ (N := 6) (cs := #[.int .i64 0, .int .i64 0, .int .i64 0, .int .i64 0, .int .i64 0, .string (⟨#[]⟩ : ByteArray)]) (t := 24) ?_; intro gb176 hg w18 hbox hb; replace HO_2 := aM_ (Kd.R_below (rR_ HO_2) hb); replace BK176 := aM_ (hbox); replace GW176 := aM_ (gE_ hg (bs_ HB GE170)); replace GE176 := aM_ (gE_ hg (bs_ HB GE170)); replace HB := aM_ (bT_ (bs_ HB GE170) hb); replace NB170_176 := aM_ ((by rw [hg]; exact Nat.ne_of_lt (blk_lt (g := gb170) (o := .cells #[.int .i64 ((J24 l0 x10_1).f0), .int .i64 ((J24 l0 x10_1).f1), .int .i64 ((J24 l0 x10_1).f2), .int .i64 ((J24 l0 x10_1).f3), .int .i64 ((J24 l0 x10_1).f4), .string ((J24 l0 x10_1).f5)] 24 (0, 0)) (rB_ BK170)) : gb170 ≠ gb176)); replace NB176_170 := aM_ ((by rw [hg]; exact Nat.ne_of_gt (blk_lt (g := gb170) (o := .cells #[.int .i64 ((J24 l0 x10_1).f0), .int .i64 ((J24 l0 x10_1).f1), .int .i64 ((J24 l0 x10_1).f2), .int .i64 ((J24 l0 x10_1).f3), .int .i64 ((J24 l0 x10_1).f4), .string ((J24 l0 x10_1).f5)] 24 (0, 0)) (rB_ BK170)) : gb176 ≠ gb170)); replace BK170 := aM_ (kB_ (rB_ BK170) hb); clear hb hbox hg; have hnb19 := NB176_170.out; have hnc19 := NB170_176.out; obtain ⟨hcz20_0, hcz20_1, hcz20_2, hcz20_3, hcz20_4, hcz20_5⟩ := cl6_ BK176.out; obtain ⟨hfz20_0, hfz20_1, hfz20_2, hfz20_3, hfz20_4, hfz20_5⟩ := fz6_ BK176.out; obtain ⟨hcz21_0, hcz21_1, hcz21_2, hcz21_3, hcz21_4, hcz21_5⟩ := cl6_ BK170.out; obtain ⟨hfz21_0, hfz21_1, hfz21_2, hfz21_3, hfz21_4, hfz21_5⟩ := fz6_ BK170.out) | ((with_reducible refine gC_ (f := 91) rfl ?_); refine gL_ (some 27) Try.func91 #[.agg #[.int .i64 ((J24 l0 x10_1).f0), .int .i64 ((J24 l0 x10_1).f1), .int .i64 ((J24 l0 x10_1).f2), .int .i64 ((J24 l0 x10_1).f3), .int .i64 ((J24 l0 x10_1).f4), .string ((J24 l0 x10_1).f5)], .agg #[.int .i64 ((J24 y171 x20_2).f0), .int .i64 ((J24 y171 x20_2).f1), .int .i64 ((J24 y171 x20_2).f2), .int .i64 ((J24 y171 x20_2).f3), .int .i64 ((J24 y171 x20_2).f4), .string ((J24 y171 x20_2).f5)]] rfl ?_; (with_reducible refine (dag_dist.calls k2 ((J24 l0 x10_1).f0) ((J24 l0 x10_1).f1) ((J24 l0 x10_1).f2) ((J24 l0 x10_1).f3) ((J24 l0 x10_1).f4) ((J24 l0 x10_1).f5) ((J24 y171 x20_2).f0) ((J24 y171 x20_2).f1) ((J24 y171 x20_2).f2) ((J24 y171 x20_2).f3) ((J24 y171 x20_2).f4) ((J24 y171 x20_2).f5) t177 _ A15.out).mono ?_); rintro e w22 ⟨rfl, hb⟩; refine ⟨_, rfl, ?_⟩; replace HO_2 := aM_ (Kd.R_below (by (with_reducible repeat (first | apply Kd.R_alloc | apply Kd.R_drewN | apply Kd.R_drew)); exact (Kd.R_mono (Kd.R_far (p := ⟨gb176, 5, none⟩) (Kd.R_far (p := ⟨gb176, 4, none⟩) (Kd.R_far (p := ⟨gb176, 3, none⟩) (Kd.R_far (p := ⟨gb176, 2, none⟩) (Kd.R_far (p := ⟨gb176, 1, none⟩) (Kd.R_far (p := ⟨gb176, 0, none⟩) (Kd.R_types HO_2.out BK176.out (by decide)) (fun _ hk => hk.2) (.int .i64 ((J24 y171 x20_2).f0))) (fun _ hk => hk.2) (.int .i64 ((J24 y171 x20_2).f1))) (fun _ hk => hk.2) (.int .i64 ((J24 y171 x20_2).f2))) (fun _ hk => hk.2) (.int .i64 ((J24 y171 x20_2).f3))) (fun _ hk => hk.2) (.int .i64 ((J24 y171 x20_2).f4))) (fun _ hk => hk.2) (.string ((J24 y171 x20_2).f5))) (fun _ h_ => h_.1))) hb); replace BK170 := aM_ (kB_ (g := gb170) (o := .cells #[.int .i64 ((J24 l0 x10_1).f0), .int .i64 ((J24 l0 x10_1).f1), .int .i64 ((J24 l0 x10_1).f2), .int .i64 ((J24 l0 x10_1).f3), .int .i64 ((J24 l0 x10_1).f4), .string ((J24 l0 x10_1).f5)] 24 (0, 0)) (by (with_reducible repeat (first | refine kN_ ?_ _ | refine kD_ ?_ | refine kA_ ?_ _)); refine blk_far ?_ NB170_176.out _; (with_reducible repeat (first | refine kN_ ?_ _ | refine kD_ ?_ | refine kA_ ?_ _)); refine blk_far ?_ NB170_176.out _; (with_reducible repeat (first | refine kN_ ?_ _ | refine kD_ ?_ | refine kA_ ?_ _)); refine blk_far ?_ NB170_176.out _; (with_reducible repeat (first | refine kN_ ?_ _ | refine kD_ ?_ | refine kA_ ?_ _)); refine blk_far ?_ NB170_176.out _; (with_reducible repeat (first | refine kN_ ?_ _ | refine kD_ ?_ | refine kA_ ?_ _)); refine blk_far ?_ NB170_176.out _; (with_reducible repeat (first | refine kN_ ?_ _ | refine kD_ ?_ | refine kA_ ?_ _)); refine blk_far ?_ NB170_176.out _; (with_reducible repeat (first | refine kN_ ?_ _ | refine kD_ ?_ | refine kA_ ?_ _)); exact BK170.out) hb); replace BK176 := aM_ (kB_ (g := gb176) (o := .cells #[.int .i64 ((J24 y171 x20_2).f0), .int .i64 ((J24 y171 x20_2).f1), .int .i64 ((J24 y171 x20_2).f2), .int .i64 ((J24 y171 x20_2).f3), .int .i64 ((J24 y171 x20_2).f4), .string ((J24 y171 x20_2).f5)] 24 (0, 0)) (by (with_reducible repeat (first | refine kN_ ?_ _ | refine kD_ ?_ | refine kA_ ?_ _)); refine blk_put (cs := #[.int .i64 ((J24 y171 x20_2).f0), .int .i64 ((J24 y171 x20_2).f1), .int .i64 ((J24 y171 x20_2).f2), .int .i64 ((J24 y171 x20_2).f3), .int .i64 ((J24 y171 x20_2).f4), .string (⟨#[]⟩ : ByteArray)]) ?_ 5 _ rfl; (with_reducible repeat (first | refine kN_ ?_ _ | refine kD_ ?_ | refine kA_ ?_ _)); refine blk_put (cs := #[.int .i64 ((J24 y171 x20_2).f0), .int .i64 ((J24 y171 x20_2).f1), .int .i64 ((J24 y171 x20_2).f2), .int .i64 ((J24 y171 x20_2).f3), .int .i64 0, .string (⟨#[]⟩ : ByteArray)]) ?_ 4 _ rfl; (with_reducible repeat (first | refine kN_ ?_ _ | refine kD_ ?_ | refine kA_ ?_ _)); refine blk_put (cs := #[.int .i64 ((J24 y171 x20_2).f0), .int .i64 ((J24 y171 x20_2).f1), .int .i64 ((J24 y171 x20_2).f2), .int .i64 0, .int .i64 0, .string (⟨#[]⟩ : ByteArray)]) ?_ 3 _ rfl; (with_reducible repeat (first | refine kN_ ?_ _ | refine kD_ ?_ | refine kA_ ?_ _)); refine blk_put (cs := #[.int .i64 ((J24 y171 x20_2).f0), .int .i64 ((J24 y171 x20_2).f1), .int .i64 0, .int .i64 0, .int .i64 0, .string (⟨#[]⟩ : ByteArray)]) ?_ 2 _ rfl; (with_reducible repeat (first | refine kN_ ?_ _ | refine kD_ ?_ | refine kA_ ?_ _)); refine blk_put (cs := #[.int .i64 ((J24 y171 x20_2).f0), .int .i64 0, .int .i64 0, .int .i64 0, .int .i64 0, .string (⟨#[]⟩ : ByteArray)]) ?_ 1 _ rfl; (with_reducible repeat (first | refine kN_ ?_ _ | refine kD_ ?_ | refine kA_ ?_ _)); refine blk_put (cs := #[.int .i64 0, .int .i64 0, .int .i64 0, .int .i64 0, .int .i64 0, .string (⟨#[]⟩ : ByteArray)]) ?_ 0 _ rfl; (with_reducible repeat (first | refine kN_ ?_ _ | refine kD_ ?_ | refine kA_ ?_ _)); exact BK176.out) hb); replace HB := aM_ (bT_ (bt_ HB GE170 GE176) hb)) | ((with_reducible refine gate_builtin (b := .append) (xs := #[.tmp 30, .tmp 38]) rfl ?_); at_builtin; refine Kd.R_append k51 (w0 := w) w.heap.size rfl (.tmp 30) (.tmp 38) 31 51 (.agg #[(.int .i64 0), (.int .i64 0), (.int .i64 0)]) 24 rfl Try.underlying31 info51 rfl (by decide) (by omega) u2 x2_2 (⟨x10_1, wrap64 (ji5 + x20_2), t177⟩ : S51) [.int .i64 x10_1, .int .i64 (wrap64 (ji5 + x20_2)), .int .i64 t177] (fun _ => True) (fun _ => False) rfl rfl ?aP (fun _ hk => hk.elim) ?aF ?aO ?aB ?aS ?aL ?_; (case aP => exact k51_mkM _ _ _ (⟨x10_1, wrap64 (ji5 + x20_2), t177⟩ : S51)); (case aB => exact (bt_ HB GE170 GE176)); (case aF => exact (fun _ _ => trivial)); (case aO => exact (rR_ HO_2)); (case aS => exact (bY_ (bt_ HB GE170 GE176))); (case aL => have := LMc17.out; omega); intro v179 w23 ho hb hg hat; rw [← Ny178.out] at ho; replace BK170 := aM_ (blk_grown (g := gb170) (o := .cells #[.int .i64 ((J24 l0 x10_1).f0), .int .i64 ((J24 l0 x10_1).f1), .int .i64 ((J24 l0 x10_1).f2), .int .i64 ((J24 l0 x10_1).f3), .int .i64 ((J24 l0 x10_1).f4), .string ((J24 l0 x10_1).f5)] 24 (0, 0)) (rB_ BK170) hg (Kd.R_ne HO_2.out BK170.out (by decide))); replace BK176 := aM_ (blk_grown (g := gb176) (o := .cells #[.int .i64 ((J24 y171 x20_2).f0), .int .i64 ((J24 y171 x20_2).f1), .int .i64 ((J24 y171 x20_2).f2), .int .i64 ((J24 y171 x20_2).f3), .int .i64 ((J24 y171 x20_2).f4), .string ((J24 y171 x20_2).f5)] 24 (0, 0)) (rB_ BK176) hg (Kd.R_ne HO_2.out BK176.out (by decide))); replace HB := aM_ (hb); replace HO180 := aM_ (ho); clear HO_2; clear ho hb hg hat))
               go_roundg k2
               case measure => have := HK1.out; have := HK2.out; omega
               case rel => exact ⟨(y178), (wrap64 (x20_2 + 1)), eQ_, H, ⟨by have := HK1.out; have := HK2.out; omega⟩, ⟨rR_ HO180⟩, ⟨rB_ BK170⟩, ⟨bt_ HB GE170 GE176⟩⟩
              rw [if_neg c17] at H
              exact absurd H (by simp)
             rw [if_neg c16] at H
             have c16b0 := dF_ c16
             clear c16
             replace H := aM_ H
             have p175 : 0 ≤ (x20_2 : Int) := oD_
             have q175 : x20_2 < (y171.length : Int) := oD_
             obtain ⟨ad175, e175, hx175_0, hx175_1, hx175_2, hx175_3, hx175_4, hx175_5⟩ := at_T24 HR174.out x20_2 p175 q175
             cases e175
             replace hx175_0 := hC_ HB hx175_0
             replace hx175_1 := hC_ HB hx175_1
             replace hx175_2 := hC_ HB hx175_2
             replace hx175_3 := hC_ HB hx175_3
             replace hx175_4 := hC_ HB hx175_4
             replace hx175_5 := hC_ HB hx175_5
             replace p175 := eq_true p175
             replace q175 := eq_true q175
             go_wp2_with (first | ((with_reducible refine gate_dst (N := 6) rfl ?_); refine bX_ (N := 6) (cs := #[.int .i64 0, .int .i64 0, .int .i64 0, .int .i64 0, .int .i64 0, .string (⟨#[]⟩ : ByteArray)]) (t := 24) ?_; intro gb176 hg w24 hbox hb; replace HO_2 := aM_ (Kd.R_below (rR_ HO_2) hb); replace BK176 := aM_ (hbox); replace GW176 := aM_ (gE_ hg (bs_ HB GE170)); replace GE176 := aM_ (gE_ hg (bs_ HB GE170)); replace HB := aM_ (bT_ (bs_ HB GE170) hb); replace NB170_176 := aM_ ((by rw [hg]; exact Nat.ne_of_lt (blk_lt (g := gb170) (o := .cells #[.int .i64 ((J24 l0 x10_1).f0), .int .i64 ((J24 l0 x10_1).f1), .int .i64 ((J24 l0 x10_1).f2), .int .i64 ((J24 l0 x10_1).f3), .int .i64 ((J24 l0 x10_1).f4), .string ((J24 l0 x10_1).f5)] 24 (0, 0)) (rB_ BK170)) : gb170 ≠ gb176)); replace NB176_170 := aM_ ((by rw [hg]; exact Nat.ne_of_gt (blk_lt (g := gb170) (o := .cells #[.int .i64 ((J24 l0 x10_1).f0), .int .i64 ((J24 l0 x10_1).f1), .int .i64 ((J24 l0 x10_1).f2), .int .i64 ((J24 l0 x10_1).f3), .int .i64 ((J24 l0 x10_1).f4), .string ((J24 l0 x10_1).f5)] 24 (0, 0)) (rB_ BK170)) : gb176 ≠ gb170)); replace BK170 := aM_ (kB_ (rB_ BK170) hb); clear hb hbox hg; have hnb25 := NB176_170.out; have hnc25 := NB170_176.out; obtain ⟨hcz26_0, hcz26_1, hcz26_2, hcz26_3, hcz26_4, hcz26_5⟩ := cl6_ BK176.out; obtain ⟨hfz26_0, hfz26_1, hfz26_2, hfz26_3, hfz26_4, hfz26_5⟩ := fz6_ BK176.out; obtain ⟨hcz27_0, hcz27_1, hcz27_2, hcz27_3, hcz27_4, hcz27_5⟩ := cl6_ BK170.out; obtain ⟨hfz27_0, hfz27_1, hfz27_2, hfz27_3, hfz27_4, hfz27_5⟩ := fz6_ BK170.out) | ((with_reducible refine gC_ (f := 91) rfl ?_); refine gL_ (some 27) Try.func91 #[.agg #[.int .i64 ((J24 l0 x10_1).f0), .int .i64 ((J24 l0 x10_1).f1), .int .i64 ((J24 l0 x10_1).f2), .int .i64 ((J24 l0 x10_1).f3), .int .i64 ((J24 l0 x10_1).f4), .string ((J24 l0 x10_1).f5)], .agg #[.int .i64 ((J24 y171 x20_2).f0), .int .i64 ((J24 y171 x20_2).f1), .int .i64 ((J24 y171 x20_2).f2), .int .i64 ((J24 y171 x20_2).f3), .int .i64 ((J24 y171 x20_2).f4), .string ((J24 y171 x20_2).f5)]] rfl ?_; (with_reducible refine (dag_dist.calls k2 ((J24 l0 x10_1).f0) ((J24 l0 x10_1).f1) ((J24 l0 x10_1).f2) ((J24 l0 x10_1).f3) ((J24 l0 x10_1).f4) ((J24 l0 x10_1).f5) ((J24 y171 x20_2).f0) ((J24 y171 x20_2).f1) ((J24 y171 x20_2).f2) ((J24 y171 x20_2).f3) ((J24 y171 x20_2).f4) ((J24 y171 x20_2).f5) t177 _ A15.out).mono ?_); rintro e w28 ⟨rfl, hb⟩; refine ⟨_, rfl, ?_⟩; replace HO_2 := aM_ (Kd.R_below (by (with_reducible repeat (first | apply Kd.R_alloc | apply Kd.R_drewN | apply Kd.R_drew)); exact (Kd.R_mono (Kd.R_far (p := ⟨gb176, 5, none⟩) (Kd.R_far (p := ⟨gb176, 4, none⟩) (Kd.R_far (p := ⟨gb176, 3, none⟩) (Kd.R_far (p := ⟨gb176, 2, none⟩) (Kd.R_far (p := ⟨gb176, 1, none⟩) (Kd.R_far (p := ⟨gb176, 0, none⟩) (Kd.R_types HO_2.out BK176.out (by decide)) (fun _ hk => hk.2) (.int .i64 ((J24 y171 x20_2).f0))) (fun _ hk => hk.2) (.int .i64 ((J24 y171 x20_2).f1))) (fun _ hk => hk.2) (.int .i64 ((J24 y171 x20_2).f2))) (fun _ hk => hk.2) (.int .i64 ((J24 y171 x20_2).f3))) (fun _ hk => hk.2) (.int .i64 ((J24 y171 x20_2).f4))) (fun _ hk => hk.2) (.string ((J24 y171 x20_2).f5))) (fun _ h_ => h_.1))) hb); replace BK170 := aM_ (kB_ (g := gb170) (o := .cells #[.int .i64 ((J24 l0 x10_1).f0), .int .i64 ((J24 l0 x10_1).f1), .int .i64 ((J24 l0 x10_1).f2), .int .i64 ((J24 l0 x10_1).f3), .int .i64 ((J24 l0 x10_1).f4), .string ((J24 l0 x10_1).f5)] 24 (0, 0)) (by (with_reducible repeat (first | refine kN_ ?_ _ | refine kD_ ?_ | refine kA_ ?_ _)); refine blk_far ?_ NB170_176.out _; (with_reducible repeat (first | refine kN_ ?_ _ | refine kD_ ?_ | refine kA_ ?_ _)); refine blk_far ?_ NB170_176.out _; (with_reducible repeat (first | refine kN_ ?_ _ | refine kD_ ?_ | refine kA_ ?_ _)); refine blk_far ?_ NB170_176.out _; (with_reducible repeat (first | refine kN_ ?_ _ | refine kD_ ?_ | refine kA_ ?_ _)); refine blk_far ?_ NB170_176.out _; (with_reducible repeat (first | refine kN_ ?_ _ | refine kD_ ?_ | refine kA_ ?_ _)); refine blk_far ?_ NB170_176.out _; (with_reducible repeat (first | refine kN_ ?_ _ | refine kD_ ?_ | refine kA_ ?_ _)); refine blk_far ?_ NB170_176.out _; (with_reducible repeat (first | refine kN_ ?_ _ | refine kD_ ?_ | refine kA_ ?_ _)); exact BK170.out) hb); replace BK176 := aM_ (kB_ (g := gb176) (o := .cells #[.int .i64 ((J24 y171 x20_2).f0), .int .i64 ((J24 y171 x20_2).f1), .int .i64 ((J24 y171 x20_2).f2), .int .i64 ((J24 y171 x20_2).f3), .int .i64 ((J24 y171 x20_2).f4), .string ((J24 y171 x20_2).f5)] 24 (0, 0)) (by (with_reducible repeat (first | refine kN_ ?_ _ | refine kD_ ?_ | refine kA_ ?_ _)); refine blk_put (cs := #[.int .i64 ((J24 y171 x20_2).f0), .int .i64 ((J24 y171 x20_2).f1), .int .i64 ((J24 y171 x20_2).f2), .int .i64 ((J24 y171 x20_2).f3), .int .i64 ((J24 y171 x20_2).f4), .string (⟨#[]⟩ : ByteArray)]) ?_ 5 _ rfl; (with_reducible repeat (first | refine kN_ ?_ _ | refine kD_ ?_ | refine kA_ ?_ _)); refine blk_put (cs := #[.int .i64 ((J24 y171 x20_2).f0), .int .i64 ((J24 y171 x20_2).f1), .int .i64 ((J24 y171 x20_2).f2), .int .i64 ((J24 y171 x20_2).f3), .int .i64 0, .string (⟨#[]⟩ : ByteArray)]) ?_ 4 _ rfl; (with_reducible repeat (first | refine kN_ ?_ _ | refine kD_ ?_ | refine kA_ ?_ _)); refine blk_put (cs := #[.int .i64 ((J24 y171 x20_2).f0), .int .i64 ((J24 y171 x20_2).f1), .int .i64 ((J24 y171 x20_2).f2), .int .i64 0, .int .i64 0, .string (⟨#[]⟩ : ByteArray)]) ?_ 3 _ rfl; (with_reducible repeat (first | refine kN_ ?_ _ | refine kD_ ?_ | refine kA_ ?_ _)); refine blk_put (cs := #[.int .i64 ((J24 y171 x20_2).f0), .int .i64 ((J24 y171 x20_2).f1), .int .i64 0, .int .i64 0, .int .i64 0, .string (⟨#[]⟩ : ByteArray)]) ?_ 2 _ rfl; (with_reducible repeat (first | refine kN_ ?_ _ | refine kD_ ?_ | refine kA_ ?_ _)); refine blk_put (cs := #[.int .i64 ((J24 y171 x20_2).f0), .int .i64 0, .int .i64 0, .int .i64 0, .int .i64 0, .string (⟨#[]⟩ : ByteArray)]) ?_ 1 _ rfl; (with_reducible repeat (first | refine kN_ ?_ _ | refine kD_ ?_ | refine kA_ ?_ _)); refine blk_put (cs := #[.int .i64 0, .int .i64 0, .int .i64 0, .int .i64 0, .int .i64 0, .string (⟨#[]⟩ : ByteArray)]) ?_ 0 _ rfl; (with_reducible repeat (first | refine kN_ ?_ _ | refine kD_ ?_ | refine kA_ ?_ _)); exact BK176.out) hb); replace HB := aM_ (bT_ (bt_ HB GE170 GE176) hb)))
             go_roundg k2
             case measure => have := HK1.out; have := HK2.out; omega
             case rel => exact ⟨(x2_2), (wrap64 (x20_2 + 1)), eQ_, H, ⟨by have := HK1.out; have := HK2.out; omega⟩, ⟨rR_ HO_2⟩, ⟨rB_ BK170⟩, ⟨bt_ HB GE170 GE176⟩⟩
            rw [if_neg c14] at H
            exact absurd H (by simp)
           rw [if_neg c13] at H
           exact absurd H (by simp)
          rw [if_neg c12] at H
          have c12b0 := dF_ c12
          clear c12
          replace H := aM_ H
          go_wp2
          go_roundg k2
          case measure => have := HK1.out; have := HK2.out; omega
          case rel => exact ⟨(x2_2), (wrap64 (x10_1 + 1)), eQ_, H, ⟨by have := HK1.out; have := HK2.out; omega⟩, ⟨rR_ HO_2⟩, ⟨bs_ HB GE170⟩⟩
       rw [if_neg c7] at H
       exact absurd H (by simp)
      rw [if_neg c6] at H
      exact absurd H (by simp)
     rw [if_neg c4] at H
     exact absurd H (by simp)
    rw [if_neg c3] at H
    exact absurd H (by simp)
   rw [if_neg c2] at H
   have c2b0 := dF_ c2
   clear c2
   obtain rfl := oI_ H
   go_wp2
   go_ret
   exact ⟨_, eR_, rR_ HO_2, bl_ HB⟩
def dag_Of.f (k : Nat) (l0 : List (S24)) : Option ((List (S51)) × Int) := (dag_May.f k l0).bind fun t181 => (if t181 = true then ((dag_Edges.f k l0).bind fun t182 => (some (t182, 0))) else (some (([] : List (S51)), 1)))
theorem dag_Of.mono : ∀ a0 k, LeO (dag_Of.f k a0) (dag_Of.f (k + 1) a0) := by
 intro a0 k
 unfold dag_Of.f
 repeat' first
  | (with_reducible exact dag_Edges.mono _ _)
  | (with_reducible exact dag_May.mono _ _)
  | (with_reducible exact LeO.refl _)
  | (with_reducible exact LeO.none _)
  | (with_reducible refine LeO.ite ?_ ?_)
  | (with_reducible refine LeO.bind ?_ (fun _ => ?_))
  | exact LeO.none _
  | refine LeO.ite ?_ ?_
  | refine LeO.bind ?_ (fun _ => ?_)
theorem dag_Of.calls (k : Nat) (A0 : Option Addr) (c0 : Nat) (l0 : List (S24)) (r1 : List (S51)) (r2 : Int) (w : World) (hr0 : Kd.C k24 w A0 l0.length l0) (hc0 : l0.length ≤ c0) (h : dag_Of.f k l0 = some (r1, r2)) :
    Calls Try.prog 19 #[.slice A0 l0.length c0] w fun e w' => ∃ v0_ : Value, e = .returned (.tuple #[v0_, .int .i64 r2]) ∧ Kd.R k51 51 w' w.heap.size (fun _ => True) v0_ r1 ∧ Below w.heap.size w w' := by
 have HR0 := aM_ hr0
 have HC0 := aM_ hc0
 clear hr0 hc0
 have HB := aM_ (Below.refl w.heap.size w)
 have H : ((dag_May.f k l0).bind fun t181 => (if t181 = true then ((dag_Edges.f k l0).bind fun t182 => (some (t182, 0))) else (some (([] : List (S51)), 1)))) = some (r1, r2) := h
 clear h
 replace H := oB_ H
 obtain ⟨t181, A2, H⟩ := H
 by_cases c3 : t181 = true
 ·subst c3
  have H1 : ((dag_Edges.f k l0).bind fun t182 => (some (t182, 0))) = some (r1, r2) := by rw [if_pos rfl] at H; exact H
  clear H
  have H := H1
  clear H1
  replace H := oB_ H
  obtain ⟨t182, A4, H⟩ := H
  simp only [Option.some.injEq, Prod.mk.injEq] at H
  obtain ⟨rfl, rfl⟩ := H
  go_enter Try.func19, Try.ntmps19
  go_wp2_with (first | ((with_reducible refine gC_ (f := 55) rfl ?_); refine gL_ (some 5) Try.func55 #[.slice A0 l0.length c0] rfl ?_; (with_reducible refine (dag_May.calls k _ _ l0 true _ ?side1 ?side2 A2.out).mono ?_); (case side1 => exact rC_ HR0.out); (case side2 => exact HC0.out); rintro e w5 ⟨rfl, hb⟩; refine ⟨_, rfl, ?_⟩; replace HB := aM_ (bT_ (bl_ HB) hb)) | ((with_reducible refine gC_ (f := 56) rfl ?_); refine gL_ (some 8) Try.func56 #[.slice A0 l0.length c0] rfl ?_; (with_reducible refine (dag_Edges.calls k _ _ l0 t182 _ ?side1 ?side2 A4.out).mono ?_); (case side1 => exact rC_ (Kd.C_below HR0.out HB.out)); (case side2 => exact HC0.out); rintro e w6 ⟨v183, rfl, ho0, hb⟩; refine ⟨_, rfl, ?_⟩; replace HO184 := aM_ (Kd.R_lower ho0 (bY_ (bl_ HB))); replace HB := aM_ (bT_ (bl_ HB) hb); (try clear ho0)))
  go_ret2
  exact ⟨_, eR_, rR_ HO184, bl_ HB⟩
 replace c3 := eF_ c3
 subst c3
 have H1 : (some (([] : List (S51)), 1)) = some (r1, r2) := by rw [if_neg (show ¬ (false = true) by decide)] at H; exact H
 clear H
 have H := H1
 clear H1
 simp only [Option.some.injEq, Prod.mk.injEq] at H
 obtain ⟨rfl, rfl⟩ := H
 go_enter Try.func19, Try.ntmps19
 go_wp2_with (first | ((with_reducible refine gC_ (f := 55) rfl ?_); refine gL_ (some 5) Try.func55 #[.slice A0 l0.length c0] rfl ?_; (with_reducible refine (dag_May.calls k _ _ l0 false _ ?side1 ?side2 A2.out).mono ?_); (case side1 => exact rC_ HR0.out); (case side2 => exact HC0.out); rintro e w7 ⟨rfl, hb⟩; refine ⟨_, rfl, ?_⟩; replace HB := aM_ (bT_ (bl_ HB) hb)))
 go_ret2
 exact ⟨_, eR_, by first | exact Kd.R_nil _ _ _ _ _ | exact Kd.N_nil _ _ _ _ _ | exact Kd.V_nil _ _ _ _ _ | exact Kd.Q_nil _ _ _ _ _ | exact Kd.S_nil _ _ _ _ _, bl_ HB⟩
def dag_Heights.f (k : Nat) (l0 : List (S24)) : Option (List Int × Int) := (dag_May.f k l0).bind fun t185 => (if t185 = true then ((dag_Edges.f k l0).bind fun t186 => ((dag_High.f k l0 t186).bind fun t189 => (some (t189, 0)))) else (some (([] : List Int), 1)))
theorem dag_Heights.mono : ∀ a0 k, LeO (dag_Heights.f k a0) (dag_Heights.f (k + 1) a0) := by
 intro a0 k
 unfold dag_Heights.f
 repeat' first
  | (with_reducible exact dag_Edges.mono _ _)
  | (with_reducible exact dag_High.mono _ _ _)
  | (with_reducible exact dag_May.mono _ _)
  | (with_reducible exact LeO.refl _)
  | (with_reducible exact LeO.none _)
  | (with_reducible refine LeO.ite ?_ ?_)
  | (with_reducible refine LeO.bind ?_ (fun _ => ?_))
  | exact LeO.none _
  | refine LeO.ite ?_ ?_
  | refine LeO.bind ?_ (fun _ => ?_)
theorem dag_Heights.calls (k : Nat) (A0 : Option Addr) (c0 : Nat) (l0 : List (S24)) (r1 : List Int) (r2 : Int) (w : World) (hr0 : Kd.C k24 w A0 l0.length l0) (hc0 : l0.length ≤ c0) (h : dag_Heights.f k l0 = some (r1, r2)) :
    Calls Try.prog 20 #[.slice A0 l0.length c0] w fun e w' => ∃ v0_ : Value, e = .returned (.tuple #[v0_, .int .i64 r2]) ∧ Kd.R (Kd.int .i64) 3 w' w.heap.size (fun _ => True) v0_ r1 ∧ Below w.heap.size w w' := by
 have HR0 := aM_ hr0
 have HC0 := aM_ hc0
 clear hr0 hc0
 have HB := aM_ (Below.refl w.heap.size w)
 have H : ((dag_May.f k l0).bind fun t185 => (if t185 = true then ((dag_Edges.f k l0).bind fun t186 => ((dag_High.f k l0 t186).bind fun t189 => (some (t189, 0)))) else (some (([] : List Int), 1)))) = some (r1, r2) := h
 clear h
 replace H := oB_ H
 obtain ⟨t185, A2, H⟩ := H
 by_cases c3 : t185 = true
 ·subst c3
  have H1 : ((dag_Edges.f k l0).bind fun t186 => ((dag_High.f k l0 t186).bind fun t189 => (some (t189, 0)))) = some (r1, r2) := by rw [if_pos rfl] at H; exact H
  clear H
  have H := H1
  clear H1
  replace H := oB_ H
  obtain ⟨t186, A4, H⟩ := H
  replace H := oB_ H
  obtain ⟨t189, A5, H⟩ := H
  simp only [Option.some.injEq, Prod.mk.injEq] at H
  obtain ⟨rfl, rfl⟩ := H
  go_enter Try.func20, Try.ntmps20
  go_wp2_with (first | ((with_reducible refine gC_ (f := 55) rfl ?_); refine gL_ (some 5) Try.func55 #[.slice A0 l0.length c0] rfl ?_; (with_reducible refine (dag_May.calls k _ _ l0 true _ ?side1 ?side2 A2.out).mono ?_); (case side1 => exact rC_ HR0.out); (case side2 => exact HC0.out); rintro e w6 ⟨rfl, hb⟩; refine ⟨_, rfl, ?_⟩; replace HB := aM_ (bT_ (bl_ HB) hb)) | ((with_reducible refine gC_ (f := 56) rfl ?_); refine gL_ (some 9) Try.func56 #[.slice A0 l0.length c0] rfl ?_; (with_reducible refine (dag_Edges.calls k _ _ l0 t186 _ ?side1 ?side2 A4.out).mono ?_); (case side1 => exact rC_ (Kd.C_below HR0.out HB.out)); (case side2 => exact HC0.out); rintro e w7 ⟨v187, rfl, ho0, hb⟩; refine ⟨_, rfl, ?_⟩; replace HO188 := aM_ (Kd.R_lower ho0 (bY_ (bl_ HB))); replace HB := aM_ (bT_ (bl_ HB) hb); (try clear ho0); obtain ⟨Ao8, co8, eo8⟩ := Kd.R_slice HO188.out; subst eo8) | ((with_reducible refine gC_ (f := 57) rfl ?_); refine gL_ (some 10) Try.func57 #[.slice A0 l0.length c0, .slice Ao8 t186.length co8] rfl ?_; (with_reducible refine (dag_High.calls k _ _ l0 _ _ t186 t189 _ ?side1 ?side2 ?side3 ?side4 A5.out).mono ?_); (case side1 => exact rC_ (Kd.C_below HR0.out HB.out)); (case side2 => exact HC0.out); (case side3 => exact rC_ (Kd.R_reads' HO188.out).2.2); (case side4 => exact (Kd.R_reads' HO188.out).2.1); rintro e w9 ⟨v190, rfl, ho0, hb⟩; refine ⟨_, rfl, ?_⟩; replace HO188 := aM_ (Kd.R_below (rR_ HO188) hb); replace HO191 := aM_ (Kd.R_lower ho0 (bY_ (bl_ HB))); replace HB := aM_ (bT_ (bl_ HB) hb); (try clear ho0)))
  go_ret2
  exact ⟨_, eR_, rR_ HO191, bl_ HB⟩
 replace c3 := eF_ c3
 subst c3
 have H1 : (some (([] : List Int), 1)) = some (r1, r2) := by rw [if_neg (show ¬ (false = true) by decide)] at H; exact H
 clear H
 have H := H1
 clear H1
 simp only [Option.some.injEq, Prod.mk.injEq] at H
 obtain ⟨rfl, rfl⟩ := H
 go_enter Try.func20, Try.ntmps20
 go_wp2_with (first | ((with_reducible refine gC_ (f := 55) rfl ?_); refine gL_ (some 5) Try.func55 #[.slice A0 l0.length c0] rfl ?_; (with_reducible refine (dag_May.calls k _ _ l0 false _ ?side1 ?side2 A2.out).mono ?_); (case side1 => exact rC_ HR0.out); (case side2 => exact HC0.out); rintro e w10 ⟨rfl, hb⟩; refine ⟨_, rfl, ?_⟩; replace HB := aM_ (bT_ (bl_ HB) hb)))
 go_ret2
 exact ⟨_, eR_, by first | exact Kd.R_nil _ _ _ _ _ | exact Kd.N_nil _ _ _ _ _ | exact Kd.V_nil _ _ _ _ _ | exact Kd.Q_nil _ _ _ _ _ | exact Kd.S_nil _ _ _ _ _, bl_ HB⟩
def w14_num.f (a0 : Int) : Option (Int) := some a0
theorem w14_num.calls (a0 : Int) (r : Int) (w : World) (h : w14_num.f a0 = some r) :
    Calls Try.prog 21 #[.int .i64 a0] w fun e w' => e = .returned (.int .i64 r) ∧ Dr_ w w' := by
 have H : (some a0) = some r := h
 clear h
 obtain rfl := oI_ H
 go_enter Try.func21, Try.ntmps21
 go_wp2
 go_ret
 exact ⟨eQ_, dR_⟩
mutual
def r3_Latency.j0 : Nat → Int → Bool → Option (Int)
  | 0, _, _ => none
  | k + 1, x3, x4 => if x4 = true then (some 2) else (if x3 = 20 then (r3_Latency.j1 k x3 (x3 == 20)) else (r3_Latency.j1 k x3 (x3 == 24)))
def r3_Latency.j1 : Nat → Int → Bool → Option (Int)
  | 0, _, _ => none
  | k + 1, x3, x8 => if x8 = true then (some 3) else (if x3 = 16 then (r3_Latency.j2 k (x3 == 16)) else (r3_Latency.j2 k (x3 == 17)))
def r3_Latency.j2 : Nat → Bool → Option (Int)
  | 0, _ => none
  | k + 1, x11 => if x11 = true then (some 4) else (some 1)
end
def r3_Latency.f (k : Nat) (a0 : Int) : Option (Int) := if a0 = 14 then (r3_Latency.j0 k a0 (a0 == 14)) else (if a0 = 15 then (r3_Latency.j0 k a0 (a0 == 15)) else (r3_Latency.j0 k a0 (a0 == 26)))
theorem r3_Latency.mono_l : ∀ k, (∀ y0 y1, LeO (r3_Latency.j0 k y0 y1) (r3_Latency.j0 (k + 1) y0 y1)) ∧ (∀ y0 y1, LeO (r3_Latency.j1 k y0 y1) (r3_Latency.j1 (k + 1) y0 y1)) ∧ (∀ y0, LeO (r3_Latency.j2 k y0) (r3_Latency.j2 (k + 1) y0))
  | 0 => ⟨fun _ _ r h => by simp [r3_Latency.j0] at h, fun _ _ r h => by simp [r3_Latency.j1] at h, fun _ r h => by simp [r3_Latency.j2] at h⟩
  | k + 1 => by
    obtain ⟨ih0, ih1, ih2⟩ := r3_Latency.mono_l k
    refine ⟨?_, ?_, ?_⟩
    · intro y0 y1
      unfold r3_Latency.j0
      repeat' first
      | (with_reducible exact ih0 _ _)
      | (with_reducible exact ih1 _ _)
      | (with_reducible exact ih2 _)
      | (with_reducible exact LeO.refl _)
      | (with_reducible exact LeO.none _)
      | (with_reducible refine LeO.ite ?_ ?_)
      | (with_reducible refine LeO.bind ?_ (fun _ => ?_))
      | exact LeO.none _
      | refine LeO.ite ?_ ?_
      | refine LeO.bind ?_ (fun _ => ?_)
    · intro y0 y1
      unfold r3_Latency.j1
      repeat' first
      | (with_reducible exact ih0 _ _)
      | (with_reducible exact ih1 _ _)
      | (with_reducible exact ih2 _)
      | (with_reducible exact LeO.refl _)
      | (with_reducible exact LeO.none _)
      | (with_reducible refine LeO.ite ?_ ?_)
      | (with_reducible refine LeO.bind ?_ (fun _ => ?_))
      | exact LeO.none _
      | refine LeO.ite ?_ ?_
      | refine LeO.bind ?_ (fun _ => ?_)
    · intro y0
      unfold r3_Latency.j2
      repeat' first
      | (with_reducible exact ih0 _ _)
      | (with_reducible exact ih1 _ _)
      | (with_reducible exact ih2 _)
      | (with_reducible exact LeO.refl _)
      | (with_reducible exact LeO.none _)
      | (with_reducible refine LeO.ite ?_ ?_)
      | (with_reducible refine LeO.bind ?_ (fun _ => ?_))
      | exact LeO.none _
      | refine LeO.ite ?_ ?_
      | refine LeO.bind ?_ (fun _ => ?_)
theorem r3_Latency.mono : ∀ a0 k, LeO (r3_Latency.f k a0) (r3_Latency.f (k + 1) a0) := by
 intro a0 k
 obtain ⟨ih0, ih1, ih2⟩ := r3_Latency.mono_l k
 unfold r3_Latency.f
 repeat' first
  | (with_reducible exact ih0 _ _)
  | (with_reducible exact ih1 _ _)
  | (with_reducible exact ih2 _)
  | (with_reducible exact LeO.refl _)
  | (with_reducible exact LeO.none _)
  | (with_reducible refine LeO.ite ?_ ?_)
  | (with_reducible refine LeO.bind ?_ (fun _ => ?_))
  | exact LeO.none _
  | refine LeO.ite ?_ ?_
  | refine LeO.bind ?_ (fun _ => ?_)
theorem r3_Latency.calls (k : Nat) (a0 : Int) (r : Int) (w : World) (h : r3_Latency.f k a0 = some r) :
    Calls Try.prog 27 #[.int .i64 a0] w fun e w' => e = .returned (.int .i64 r) ∧ Dr_ w w' := by
 have H : (if a0 = 14 then (r3_Latency.j0 k a0 (a0 == 14)) else (if a0 = 15 then (r3_Latency.j0 k a0 (a0 == 15)) else (r3_Latency.j0 k a0 (a0 == 26)))) = some r := h
 clear h
 have HC2 := aM_ H
 clear H
 go_enter Try.func27, Try.ntmps27
 go_upto_if 4 with (fail)
 go_cut [4] (fun v4 wc => ∃ (kq : Nat) (x4_1 : Bool), v4 = .bool x4_1 ∧ As_ (r3_Latency.j0 kq a0 x4_1 = some r) ∧ As_ (kq ≤ k) ∧ Dr_ w wc)
 case first =>
  have H := HC2.out
  clear HC2
  by_cases c3 : a0 = 14
  ·rw [if_pos c3] at H
   have c3b0 := bH_ c3
   have c3b1 := bF_ c3
   clear c3
   (first | rw [c3b0] | (simp only [i64_w, i32_w]; rw [c3b0]) | skip)
   replace H := aM_ H
   go_wp2
   go_meet
   case rel => exact ⟨_, ((a0 == 14)), eQ_, H, ⟨by first | omega | exact Nat.le_refl _⟩, dR_⟩
  rw [if_neg c3] at H
  have c3b0 := bE_ c3
  have c3b1 := bG_ c3
  (first | rw [c3b0] | (simp only [i64_w, i32_w]; rw [c3b0]) | skip)
  by_cases c4 : a0 = 15
  ·rw [if_pos c4] at H
   have c4b0 := bH_ c4
   have c4b1 := bF_ c4
   clear c4
   replace H := aM_ H
   go_wp2
   go_meet
   case rel => exact ⟨_, ((a0 == 15)), eQ_, H, ⟨by first | omega | exact Nat.le_refl _⟩, dR_⟩
  rw [if_neg c4] at H
  have c4b0 := bE_ c4
  have c4b1 := bG_ c4
  replace H := aM_ H
  go_wp2
  go_meet
  case rel => exact ⟨_, ((a0 == 26)), eQ_, H, ⟨by first | omega | exact Nat.le_refl _⟩, dR_⟩
 case rest =>
  clear HC2
  obtain ⟨kq, x4_1, rfl, HA, HJ1, ⟨mc1, rfl⟩⟩ := hcut
  cases kq with
  | zero => exact absurd HA.out (by simp [r3_Latency.j0])
  | succ kj1 =>
   have H := HA.out
   clear HA
   simp only [r3_Latency.j0] at H
   by_cases c5 : x4_1 = true
   ·subst c5
    rw [if_pos rfl] at H
    obtain rfl := oI_ H
    go_wp2
    go_ret
    exact ⟨eQ_, dR_⟩
   replace c5 := eF_ c5
   subst c5
   rw [if_neg Bool.false_ne_true] at H
   have HC6 := aM_ H
   clear H
   go_upto_if 8 with (fail)
   go_cut [8] (fun v8 wc => ∃ (kq : Nat) (x8_5 : Bool), v8 = .bool x8_5 ∧ As_ (r3_Latency.j1 kq a0 x8_5 = some r) ∧ As_ (kq ≤ kj1) ∧ Dr_ w wc)
   case first =>
    have H := HC6.out
    clear HC6
    by_cases c7 : a0 = 20
    ·rw [if_pos c7] at H
     have c7b0 := bH_ c7
     have c7b1 := bF_ c7
     clear c7
     (first | rw [c7b0] | (simp only [i64_w, i32_w]; rw [c7b0]) | skip)
     replace H := aM_ H
     go_wp2
     go_meet
     case rel => exact ⟨_, ((a0 == 20)), eQ_, H, ⟨by have := HJ1.out; first | omega | exact Nat.le_refl _⟩, dR_⟩
    rw [if_neg c7] at H
    have c7b0 := bE_ c7
    have c7b1 := bG_ c7
    (first | rw [c7b0] | (simp only [i64_w, i32_w]; rw [c7b0]) | skip)
    replace H := aM_ H
    go_wp2
    go_meet
    case rel => exact ⟨_, ((a0 == 24)), eQ_, H, ⟨by have := HJ1.out; first | omega | exact Nat.le_refl _⟩, dR_⟩
   case rest =>
    clear HC6
    obtain ⟨kq, x8_5, rfl, HA, HJ5, ⟨mc5, rfl⟩⟩ := hcut
    cases kq with
    | zero => exact absurd HA.out (by simp [r3_Latency.j1])
    | succ kj5 =>
     have H := HA.out
     clear HA
     simp only [r3_Latency.j1] at H
     by_cases c8 : x8_5 = true
     ·subst c8
      rw [if_pos rfl] at H
      obtain rfl := oI_ H
      go_wp2
      go_ret
      exact ⟨eQ_, dR_⟩
     replace c8 := eF_ c8
     subst c8
     rw [if_neg Bool.false_ne_true] at H
     have HC9 := aM_ H
     clear H
     go_upto_if 11 with (fail)
     go_cut [11] (fun v11 wc => ∃ (kq : Nat) (x11_8 : Bool), v11 = .bool x11_8 ∧ As_ (r3_Latency.j2 kq x11_8 = some r) ∧ As_ (kq ≤ kj5) ∧ Dr_ w wc)
     case first =>
      have H := HC9.out
      clear HC9
      by_cases c10 : a0 = 16
      ·rw [if_pos c10] at H
       have c10b0 := bH_ c10
       have c10b1 := bF_ c10
       clear c10
       (first | rw [c10b0] | (simp only [i64_w, i32_w]; rw [c10b0]) | skip)
       replace H := aM_ H
       go_wp2
       go_meet
       case rel => exact ⟨_, ((a0 == 16)), eQ_, H, ⟨by have := HJ1.out; have := HJ5.out; first | omega | exact Nat.le_refl _⟩, dR_⟩
      rw [if_neg c10] at H
      have c10b0 := bE_ c10
      have c10b1 := bG_ c10
      (first | rw [c10b0] | (simp only [i64_w, i32_w]; rw [c10b0]) | skip)
      replace H := aM_ H
      go_wp2
      go_meet
      case rel => exact ⟨_, ((a0 == 17)), eQ_, H, ⟨by have := HJ1.out; have := HJ5.out; first | omega | exact Nat.le_refl _⟩, dR_⟩
     case rest =>
      clear HC9
      obtain ⟨kq, x11_8, rfl, HA, HJ8, ⟨mc8, rfl⟩⟩ := hcut
      cases kq with
      | zero => exact absurd HA.out (by simp [r3_Latency.j2])
      | succ kj8 =>
       have H := HA.out
       clear HA
       simp only [r3_Latency.j2] at H
       by_cases c11 : x11_8 = true
       ·subst c11
        rw [if_pos rfl] at H
        obtain rfl := oI_ H
        go_wp2
        go_ret
        exact ⟨eQ_, dR_⟩
       replace c11 := eF_ c11
       subst c11
       rw [if_neg Bool.false_ne_true] at H
       obtain rfl := oI_ H
       go_wp2
       go_ret
       exact ⟨eQ_, dR_⟩
end Go.Proofs.Ytibfkkjkahpobaa.PDag
