import Derived.Test.YtibfkkjkahpobaaGreatOf15
import Derived.Test.YtibfkkjkahpobaaGreatOf16
import Derived.Test.YtibfkkjkahpobaaGreatOf17
import Derived.Test.YtibfkkjkahpobaaGreatOf19
set_option linter.unusedVariables false
set_option linter.unusedSimpArgs false
set_option maxHeartbeats 8000000
set_option maxRecDepth 100000
open Go.RowKit Go.Proofs.YtibfkkjkahpobaaGreatW.PrintWords Go.Proofs.YtibfkkjkahpobaaGreatW.PrintLast Go.Proofs.YtibfkkjkahpobaaGreatW.PrintMore
namespace Go.Proofs.YtibfkkjkahpobaaGreat.PDag
section
attribute [local go_sem] max2_int min2_int max_two min_two max_three min_three max_four min_four
mutual
def dag_Edges.l0 : Nat → List (S24) → List (S100) → List (S24) → Int → Int → Option ((List (S100)))
  | 0, _, _, _, _, _ => none
  | k + 1, x0, x2, x8, x9, x10 => if x10 < x9 then (if 0 ≤ x10 then (if x10 < (x8.length : Int) then (if 0 ≤ (wrap64 (x10 + 1)) then (if (wrap64 (x10 + 1)) ≤ (x0.length : Int) then ((some (x0.drop ((wrap64 (x10 + 1)) : Int).toNat : List (S24))).bind fun y286 => (dag_Edges.l1 k x0 x2 x10 x8 x9 x10 y286 (y286.length : Int) 0 ((J24 x8 x10).f0) ((J24 x8 x10).f1) ((J24 x8 x10).f2) ((J24 x8 x10).f3) ((J24 x8 x10).f4) ((J24 x8 x10).f5))) else (none)) else (none)) else (none)) else (none)) else (some x2)
def dag_Edges.l1 : Nat → List (S24) → List (S100) → Int → List (S24) → Int → Int → List (S24) → Int → Int → Int → Int → Int → Int → Int → ByteArray → Option ((List (S100)))
  | 0, _, _, _, _, _, _, _, _, _, _, _, _, _, _, _ => none
  | k + 1, x0, x2, x3, x8, x9, x10, x18, x19, x20, x286a, x286b, x286c, x286d, x286e, x286f => if x20 < x19 then (if 0 ≤ x20 then (if x20 < (x18.length : Int) then ((dag_dist.f k x286a x286b x286c x286d x286e x286f ((J24 x18 x20).f0) ((J24 x18 x20).f1) ((J24 x18 x20).f2) ((J24 x18 x20).f3) ((J24 x18 x20).f4) ((J24 x18 x20).f5)).bind fun t292 => (if t292 ≥ 0 then (if x2.length < 5864062014805 then (dag_Edges.l1 k x0 (x2 ++ [(⟨x3, wrap64 ((wrap64 (x3 + 1)) + x20), t292⟩ : S100)]) x3 x8 x9 x10 x18 x19 (wrap64 (x20 + 1)) x286a x286b x286c x286d x286e x286f) else (none)) else (dag_Edges.l1 k x0 x2 x3 x8 x9 x10 x18 x19 (wrap64 (x20 + 1)) x286a x286b x286c x286d x286e x286f))) else (none)) else (none)) else (dag_Edges.l0 k x0 x2 x8 x9 (wrap64 (x10 + 1)))
end
def dag_Edges.f (k : Nat) (l0 : List (S24)) : Option ((List (S100))) := dag_Edges.l0 k l0 ([] : List (S100)) l0 (l0.length : Int) 0
theorem dag_Edges.calls (k : Nat) (A0 : Option Addr) (c0 : Nat) (l0 : List (S24)) (r : List (S100)) (w : World) (hr0 : Kd.C k24 w A0 l0.length l0) (hc0 : l0.length ≤ c0) (h : dag_Edges.f k l0 = some r) :
    Calls Tryz.prog 52 #[.slice A0 l0.length c0] w fun e w' => ∃ v0_ : Value, e = .returned (v0_) ∧ Kd.R k100 100 w' w.heap.size (fun _ => True) v0_ r ∧ Below w.heap.size w w' := by
 have hu24 := Tryz.underlying24; have hu100 := Tryz.underlying100; have HR0 := aM_ hr0; have HC0 := aM_ hc0; clear hr0 hc0; have HB := aM_ (Below.refl w.heap.size w); have H : (dag_Edges.l0 k l0 ([] : List (S100)) l0 (l0.length : Int) 0) = some r := h; clear h; replace H := aM_ H; go_enter Tryz.func52, Tryz.ntmps52; go_wp2
 go_loopg [2, 10] k (fun kq v2 v10 w' => ∃ (x2_1 : List (S100)) (x10_1 : Int), v10 = .int .i64 x10_1 ∧ As_ (dag_Edges.l0 kq l0 x2_1 l0 (l0.length : Int) x10_1 = some r) ∧ As_ (kq ≤ k) ∧ As_ (Kd.R k100 100 w' w.heap.size (fun _ => True) v2 x2_1) ∧ As_ (Below w.heap.size w w'))
 case atStart => exact ⟨(([] : List (S100))), (0), eQ_, H, ⟨Nat.le_refl _⟩, ⟨by first | exact Kd.R_nil _ _ _ _ _ | exact Kd.N_nil _ _ _ _ _ | exact Kd.V_nil _ _ _ _ _ | exact Kd.Q_nil _ _ _ _ _ | exact Kd.S_nil _ _ _ _ _⟩, ⟨bl_ HB⟩⟩
 case round =>
  clear H; obtain ⟨x2_1, x10_1, rfl, HA, HK1, HO_2, HB⟩ := hrel
  cases gk with
  | zero => exact absurd HA.out (by simp [dag_Edges.l0])
  | succ k1 =>
   have H := HA.out; clear HA; simp only [dag_Edges.l0] at H
   by_cases c2 : x10_1 < (l0.length : Int)
   ·rw [if_pos c2] at H; have c2b0 := dE_ c2; clear c2
    by_cases c3 : 0 ≤ x10_1
    ·rw [if_pos c3] at H; have c3b0 := dE_ c3; clear c3
     by_cases c4 : x10_1 < (l0.length : Int)
     ·rw [if_pos c4] at H; have c4b0 := dE_ c4; clear c4; obtain ⟨ji5, hji5⟩ : ∃ j_ : Int, (wrap64 (x10_1 + 1)) = j_ := ⟨_, rfl⟩
      replace H : (if 0 ≤ (ji5) then (if (ji5) ≤ (l0.length : Int) then ((some (l0.drop ((ji5) : Int).toNat : List (S24))).bind fun y286 => (dag_Edges.l1 k1 l0 x2_1 x10_1 l0 (l0.length : Int) x10_1 y286 (y286.length : Int) 0 ((J24 l0 x10_1).f0) ((J24 l0 x10_1).f1) ((J24 l0 x10_1).f2) ((J24 l0 x10_1).f3) ((J24 l0 x10_1).f4) ((J24 l0 x10_1).f5))) else (none)) else (none)) = some r := by first | (rw [hji5] at H; exact H) | (simp only [hji5] at H ⊢; exact H)
      have hji5w : (IntKind.i64.wrap (x10_1 + 1)) = ji5 := (i64_w _).trans hji5
      by_cases c6 : 0 ≤ (ji5)
      ·rw [if_pos c6] at H; have c6b0 := eq_true c6; have c6b1 := dE_ c6; clear c6
       by_cases c7 : (ji5) ≤ (l0.length : Int)
       ·rw [if_pos c7] at H; have c7b0 := eq_true c7; have c7b1 := dE_ c7; clear c7; obtain ⟨y286, hy286⟩ : ∃ y_ : List (S24), y_ = (l0.drop ((ji5) : Int).toNat) := ⟨_, rfl⟩
        replace H : (dag_Edges.l1 k1 l0 x2_1 x10_1 l0 (l0.length : Int) x10_1 y286 (y286.length : Int) 0 ((J24 l0 x10_1).f0) ((J24 l0 x10_1).f1) ((J24 l0 x10_1).f2) ((J24 l0 x10_1).f3) ((J24 l0 x10_1).f4) ((J24 l0 x10_1).f5)) = some r := by first | (rw [hy286]; with_reducible exact H) | (have H2_ := (Option.bind_some _ _).symm.trans H; rw [hy286]; with_reducible exact H2_) | (have H2_ := (Option.bind_some _ _).symm.trans H; with_reducible exact H2_) | with_reducible exact H | (rw [hy286]; exact H) | exact H
        have Ny286 := aM_ hy286; clear hy286; replace H := aM_ H; have p284 : 0 ≤ (x10_1 : Int) := oD_; have q284 : x10_1 < (l0.length : Int) := oD_; obtain ⟨ad284, e284, hx284_0, hx284_1, hx284_2, hx284_3, hx284_4, hx284_5⟩ := at_T24 HR0.out x10_1 p284 q284
        cases e284
        replace hx284_0 := hC_ HB hx284_0; replace hx284_1 := hC_ HB hx284_1; replace hx284_2 := hC_ HB hx284_2; replace hx284_3 := hC_ HB hx284_3; replace hx284_4 := hC_ HB hx284_4; replace hx284_5 := hC_ HB hx284_5; replace p284 := eq_true p284; replace q284 := eq_true q284
        go_wp2_with (first | ((with_reducible refine gate_dst (N := 4) rfl ?_); refine bX_ (N := 4) (cs := #[.int .i64 0, .int .i64 0, .int .i64 0, .int .i64 0, .int .i64 0, .string (⟨#[]⟩ : ByteArray)]) (t := 24) ?_; intro gb285 hg w8 hbox hb; replace HO_2 := aM_ (Kd.R_below (rR_ HO_2) hb); replace BK285 := aM_ (hbox); replace GW285 := aM_ (gE_ hg (bl_ HB)); replace GE285 := aM_ (gE_ hg (bl_ HB)); replace HB := aM_ (bT_ (bl_ HB) hb); clear hb hbox hg; obtain ⟨hcz9_0, hcz9_1, hcz9_2, hcz9_3, hcz9_4, hcz9_5⟩ := cl6_ BK285.out; obtain ⟨hfz9_0, hfz9_1, hfz9_2, hfz9_3, hfz9_4, hfz9_5⟩ := fz6_ BK285.out) | ((with_reducible refine gate_store (t := 24) (p := 4) rfl ?_); refine store_event (t := 24) (p := 4) (v := ?vo_w10) (w1 := ((((((w8.setCell ⟨gb285, 0, none⟩ (.int .i64 ((J24 l0 x10_1).f0))).setCell ⟨gb285, 1, none⟩ (.int .i64 ((J24 l0 x10_1).f1))).setCell ⟨gb285, 2, none⟩ (.int .i64 ((J24 l0 x10_1).f2))).setCell ⟨gb285, 3, none⟩ (.int .i64 ((J24 l0 x10_1).f3))).setCell ⟨gb285, 4, none⟩ (.int .i64 ((J24 l0 x10_1).f4))).setCell ⟨gb285, 5, none⟩ (.string ((J24 l0 x10_1).f5)))) ?hg ?ho ?hn ?hr ?_; (case ho => rfl); (case hg => rfl); (case hn => rfl); (case hr => first | (go_simp; done) | (go_simp; rfl)); intro w10 hw; replace HO_2 : As_ (Kd.R k100 100 w10 w.heap.size (fun _ => True) u2 x2_1) := ⟨(by rw [hw]; exact (by (with_reducible repeat (first | apply Kd.R_alloc | apply Kd.R_drewN | apply Kd.R_drew)); exact Kd.R_mono (Kd.R_far (p := ⟨gb285, 5, none⟩) (Kd.R_far (p := ⟨gb285, 4, none⟩) (Kd.R_far (p := ⟨gb285, 3, none⟩) (Kd.R_far (p := ⟨gb285, 2, none⟩) (Kd.R_far (p := ⟨gb285, 1, none⟩) (Kd.R_far (p := ⟨gb285, 0, none⟩) (Kd.R_types HO_2.out BK285.out (by decide)) (fun _ hk => hk.2) (.int .i64 ((J24 l0 x10_1).f0))) (fun _ hk => hk.2) (.int .i64 ((J24 l0 x10_1).f1))) (fun _ hk => hk.2) (.int .i64 ((J24 l0 x10_1).f2))) (fun _ hk => hk.2) (.int .i64 ((J24 l0 x10_1).f3))) (fun _ hk => hk.2) (.int .i64 ((J24 l0 x10_1).f4))) (fun _ hk => hk.2) (.string ((J24 l0 x10_1).f5))) (fun _ hk => trivial)))⟩; replace BK285 : As_ (w10.heap[gb285]? = some (.cells #[.int .i64 ((J24 l0 x10_1).f0), .int .i64 ((J24 l0 x10_1).f1), .int .i64 ((J24 l0 x10_1).f2), .int .i64 ((J24 l0 x10_1).f3), .int .i64 ((J24 l0 x10_1).f4), .string ((J24 l0 x10_1).f5)] 24 (0, 0))) := ⟨(by rw [hw]; exact (by (with_reducible repeat (first | refine kN_ ?_ _ | refine kD_ ?_ | refine kA_ ?_ _)); refine blk_put (cs := #[.int .i64 ((J24 l0 x10_1).f0), .int .i64 ((J24 l0 x10_1).f1), .int .i64 ((J24 l0 x10_1).f2), .int .i64 ((J24 l0 x10_1).f3), .int .i64 ((J24 l0 x10_1).f4), .string (⟨#[]⟩ : ByteArray)]) ?_ 5 _ rfl; (with_reducible repeat (first | refine kN_ ?_ _ | refine kD_ ?_ | refine kA_ ?_ _)); refine blk_put (cs := #[.int .i64 ((J24 l0 x10_1).f0), .int .i64 ((J24 l0 x10_1).f1), .int .i64 ((J24 l0 x10_1).f2), .int .i64 ((J24 l0 x10_1).f3), .int .i64 0, .string (⟨#[]⟩ : ByteArray)]) ?_ 4 _ rfl; (with_reducible repeat (first | refine kN_ ?_ _ | refine kD_ ?_ | refine kA_ ?_ _)); refine blk_put (cs := #[.int .i64 ((J24 l0 x10_1).f0), .int .i64 ((J24 l0 x10_1).f1), .int .i64 ((J24 l0 x10_1).f2), .int .i64 0, .int .i64 0, .string (⟨#[]⟩ : ByteArray)]) ?_ 3 _ rfl; (with_reducible repeat (first | refine kN_ ?_ _ | refine kD_ ?_ | refine kA_ ?_ _)); refine blk_put (cs := #[.int .i64 ((J24 l0 x10_1).f0), .int .i64 ((J24 l0 x10_1).f1), .int .i64 0, .int .i64 0, .int .i64 0, .string (⟨#[]⟩ : ByteArray)]) ?_ 2 _ rfl; (with_reducible repeat (first | refine kN_ ?_ _ | refine kD_ ?_ | refine kA_ ?_ _)); refine blk_put (cs := #[.int .i64 ((J24 l0 x10_1).f0), .int .i64 0, .int .i64 0, .int .i64 0, .int .i64 0, .string (⟨#[]⟩ : ByteArray)]) ?_ 1 _ rfl; (with_reducible repeat (first | refine kN_ ?_ _ | refine kD_ ?_ | refine kA_ ?_ _)); refine blk_put (cs := #[.int .i64 0, .int .i64 0, .int .i64 0, .int .i64 0, .int .i64 0, .string (⟨#[]⟩ : ByteArray)]) ?_ 0 _ rfl; (with_reducible repeat (first | refine kN_ ?_ _ | refine kD_ ?_ | refine kA_ ?_ _)); exact BK285.out))⟩; replace HB : As_ (Below w.heap.size w w10) := ⟨(by rw [hw]; exact (bs_ HB GE285))⟩; clear hw; have q11 : ((ji5) : Int) ≤ ((l0.length : Int) : Int) := oD_; obtain ⟨i011, hi011, _, hsz11, _⟩ := info_parts info24; have hroom11 : l0.length ≤ c0 := HC0.out; have hC11 : Kd.C k24 _ (some ad284) l0.length l0 := HR0.out; have q011 : (0 : Int) ≤ ((ji5) : Int) := oD_; have hcut11 := cut_from (P := Tryz.prog) 22 24 .i64 Tryz.underlying22 hi011 6 hsz11 (some ad284) l0.length c0 (ji5) q011 q11; have hr11 := Kd.C_drop (m := ((ji5) : Int).toNat) (c := c0) hC11 (by omega) hroom11; obtain ⟨A11, hA11⟩ : ∃ A1, A1 = (if c0 = ((ji5) : Int).toNat then (some ad284) else ((some ad284) : Option Addr).map (·.add (((ji5) : Int).toNat * 6))) := ⟨_, rfl⟩; obtain ⟨c11, hc11⟩ : ∃ c1, c1 = c0 - ((ji5) : Int).toNat := ⟨_, rfl⟩; have hy11 : y286.length = l0.length - ((ji5) : Int).toNat := (by rw [Ny286.out, List.length_drop] <;> omega); rw [show (l0).drop ((ji5) : Int).toNat = y286 from Ny286.out.symm] at hr11; replace hr11 : Kd.C k24 _ A11 y286.length y286 := (by rw [hA11]; exact hr11); rw [← hy11, ← hA11, ← hc11] at hcut11; have HR289 := aM_ hr11; have HC289 := aM_ (show y286.length ≤ c11 from by rw [hy11, hc11]; exact Nat.sub_le_sub_right hroom11 _); clear hr11 hC11 hroom11 hi011 hsz11 hc11; have KY11 := aM_ hy11; have KA11 := aM_ hA11; clear hy11 hA11; replace q11 := eq_true q11))
        go_loopg [2, 20] k1 (fun kq v2 v20 w' => ∃ (x2_2 : List (S100)) (x20_2 : Int), v20 = .int .i64 x20_2 ∧ As_ (dag_Edges.l1 kq l0 x2_2 x10_1 l0 (l0.length : Int) x10_1 y286 (y286.length : Int) x20_2 ((J24 l0 x10_1).f0) ((J24 l0 x10_1).f1) ((J24 l0 x10_1).f2) ((J24 l0 x10_1).f3) ((J24 l0 x10_1).f4) ((J24 l0 x10_1).f5) = some r) ∧ As_ (kq ≤ k1) ∧ As_ (Kd.R k100 100 w' w.heap.size (fun _ => True) v2 x2_2) ∧ As_ (w'.heap[gb285]? = some (.cells #[.int .i64 ((J24 l0 x10_1).f0), .int .i64 ((J24 l0 x10_1).f1), .int .i64 ((J24 l0 x10_1).f2), .int .i64 ((J24 l0 x10_1).f3), .int .i64 ((J24 l0 x10_1).f4), .string ((J24 l0 x10_1).f5)] 24 (0, 0))) ∧ As_ (Below w.heap.size w w'))
        case atStart => exact ⟨(x2_1), (0), eQ_, H, ⟨Nat.le_refl _⟩, ⟨rR_ HO_2⟩, ⟨rB_ BK285⟩, ⟨bs_ HB GE285⟩⟩
        case round =>
         clear H; obtain ⟨x2_2, x20_2, rfl, HA, HK2, HO_2, BK285, HB⟩ := hrel
         cases gk with
         | zero => exact absurd HA.out (by simp [dag_Edges.l1])
         | succ k2 =>
          have H := HA.out; clear HA; simp only [dag_Edges.l1] at H
          by_cases c12 : x20_2 < (y286.length : Int)
          ·rw [if_pos c12] at H; have c12b0 := dE_ c12; clear c12
           by_cases c13 : 0 ≤ x20_2
           ·rw [if_pos c13] at H; have c13b0 := dE_ c13; clear c13
            by_cases c14 : x20_2 < (y286.length : Int)
            ·rw [if_pos c14] at H; have c14b0 := dE_ c14; clear c14; obtain ⟨t292, A15, H⟩ := oB_ H
             by_cases c16 : t292 ≥ 0
             ·rw [if_pos c16] at H; have c16b0 := dE_ c16; clear c16
              by_cases c17 : x2_2.length < 5864062014805
              ·rw [if_pos c17] at H; have LMc17 := aM_ c17; clear c17; obtain ⟨y293, hy293⟩ : ∃ y_ : List (S100), y_ = (x2_2 ++ [(⟨x10_1, wrap64 ((wrap64 (x10_1 + 1)) + x20_2), t292⟩ : S100)]) := ⟨_, rfl⟩
               replace H : (dag_Edges.l1 k2 l0 y293 x10_1 l0 (l0.length : Int) x10_1 y286 (y286.length : Int) (wrap64 (x20_2 + 1)) ((J24 l0 x10_1).f0) ((J24 l0 x10_1).f1) ((J24 l0 x10_1).f2) ((J24 l0 x10_1).f3) ((J24 l0 x10_1).f4) ((J24 l0 x10_1).f5)) = some r := by first | (rw [hy293]; with_reducible exact H) | (have H2_ := (Option.bind_some _ _).symm.trans H; rw [hy293]; with_reducible exact H2_) | (have H2_ := (Option.bind_some _ _).symm.trans H; with_reducible exact H2_) | with_reducible exact H | (rw [hy293]; exact H) | exact H
               rw [hji5] at hy293; have Ny293 := aM_ hy293; clear hy293; replace H := aM_ H; have p290 : 0 ≤ (x20_2 : Int) := oD_; have q290 : x20_2 < (y286.length : Int) := oD_; obtain ⟨ad290, e290, hx290_0, hx290_1, hx290_2, hx290_3, hx290_4, hx290_5⟩ := at_T24 HR289.out x20_2 p290 q290
               cases e290
               replace hx290_0 := hC_ HB hx290_0; replace hx290_1 := hC_ HB hx290_1; replace hx290_2 := hC_ HB hx290_2; replace hx290_3 := hC_ HB hx290_3; replace hx290_4 := hC_ HB hx290_4; replace hx290_5 := hC_ HB hx290_5; replace p290 := eq_true p290; replace q290 := eq_true q290
               go_wp2_with (first | ((with_reducible refine gate_dst (N := 6) rfl ?_); refine bX_ (N := 6) (cs := #[.int .i64 0, .int .i64 0, .int .i64 0, .int .i64 0, .int .i64 0, .string (⟨#[]⟩ : ByteArray)]) (t := 24) ?_; intro gb291 hg w18 hbox hb; replace HO_2 := aM_ (Kd.R_below (rR_ HO_2) hb); replace BK291 := aM_ (hbox); replace GW291 := aM_ (gE_ hg (bs_ HB GE285)); replace GE291 := aM_ (gE_ hg (bs_ HB GE285)); replace HB := aM_ (bT_ (bs_ HB GE285) hb); replace NB285_291 := aM_ ((by rw [hg]; exact Nat.ne_of_lt (blk_lt (g := gb285) (o := .cells #[.int .i64 ((J24 l0 x10_1).f0), .int .i64 ((J24 l0 x10_1).f1), .int .i64 ((J24 l0 x10_1).f2), .int .i64 ((J24 l0 x10_1).f3), .int .i64 ((J24 l0 x10_1).f4), .string ((J24 l0 x10_1).f5)] 24 (0, 0)) (rB_ BK285)) : gb285 ≠ gb291)); replace NB291_285 := aM_ ((by rw [hg]; exact Nat.ne_of_gt (blk_lt (g := gb285) (o := .cells #[.int .i64 ((J24 l0 x10_1).f0), .int .i64 ((J24 l0 x10_1).f1), .int .i64 ((J24 l0 x10_1).f2), .int .i64 ((J24 l0 x10_1).f3), .int .i64 ((J24 l0 x10_1).f4), .string ((J24 l0 x10_1).f5)] 24 (0, 0)) (rB_ BK285)) : gb291 ≠ gb285)); replace BK285 := aM_ (kB_ (rB_ BK285) hb); clear hb hbox hg; have hnb19 := NB291_285.out; have hnc19 := NB285_291.out; obtain ⟨hcz20_0, hcz20_1, hcz20_2, hcz20_3, hcz20_4, hcz20_5⟩ := cl6_ BK291.out; obtain ⟨hfz20_0, hfz20_1, hfz20_2, hfz20_3, hfz20_4, hfz20_5⟩ := fz6_ BK291.out; obtain ⟨hcz21_0, hcz21_1, hcz21_2, hcz21_3, hcz21_4, hcz21_5⟩ := cl6_ BK285.out; obtain ⟨hfz21_0, hfz21_1, hfz21_2, hfz21_3, hfz21_4, hfz21_5⟩ := fz6_ BK285.out) | ((with_reducible refine gC_ (f := 84) rfl ?_); refine gL_ (some 27) Tryz.func84 #[.agg #[.int .i64 ((J24 l0 x10_1).f0), .int .i64 ((J24 l0 x10_1).f1), .int .i64 ((J24 l0 x10_1).f2), .int .i64 ((J24 l0 x10_1).f3), .int .i64 ((J24 l0 x10_1).f4), .string ((J24 l0 x10_1).f5)], .agg #[.int .i64 ((J24 y286 x20_2).f0), .int .i64 ((J24 y286 x20_2).f1), .int .i64 ((J24 y286 x20_2).f2), .int .i64 ((J24 y286 x20_2).f3), .int .i64 ((J24 y286 x20_2).f4), .string ((J24 y286 x20_2).f5)]] rfl ?_; (with_reducible refine (dag_dist.calls k2 ((J24 l0 x10_1).f0) ((J24 l0 x10_1).f1) ((J24 l0 x10_1).f2) ((J24 l0 x10_1).f3) ((J24 l0 x10_1).f4) ((J24 l0 x10_1).f5) ((J24 y286 x20_2).f0) ((J24 y286 x20_2).f1) ((J24 y286 x20_2).f2) ((J24 y286 x20_2).f3) ((J24 y286 x20_2).f4) ((J24 y286 x20_2).f5) t292 _ A15.out).mono ?_); rintro e w22 ⟨rfl, hb⟩; refine ⟨_, rfl, ?_⟩; replace HO_2 := aM_ (Kd.R_below (by (with_reducible repeat (first | apply Kd.R_alloc | apply Kd.R_drewN | apply Kd.R_drew)); exact (Kd.R_mono (Kd.R_far (p := ⟨gb291, 5, none⟩) (Kd.R_far (p := ⟨gb291, 4, none⟩) (Kd.R_far (p := ⟨gb291, 3, none⟩) (Kd.R_far (p := ⟨gb291, 2, none⟩) (Kd.R_far (p := ⟨gb291, 1, none⟩) (Kd.R_far (p := ⟨gb291, 0, none⟩) (Kd.R_types HO_2.out BK291.out (by decide)) (fun _ hk => hk.2) (.int .i64 ((J24 y286 x20_2).f0))) (fun _ hk => hk.2) (.int .i64 ((J24 y286 x20_2).f1))) (fun _ hk => hk.2) (.int .i64 ((J24 y286 x20_2).f2))) (fun _ hk => hk.2) (.int .i64 ((J24 y286 x20_2).f3))) (fun _ hk => hk.2) (.int .i64 ((J24 y286 x20_2).f4))) (fun _ hk => hk.2) (.string ((J24 y286 x20_2).f5))) (fun _ h_ => h_.1))) hb); replace BK285 := aM_ (kB_ (g := gb285) (o := .cells #[.int .i64 ((J24 l0 x10_1).f0), .int .i64 ((J24 l0 x10_1).f1), .int .i64 ((J24 l0 x10_1).f2), .int .i64 ((J24 l0 x10_1).f3), .int .i64 ((J24 l0 x10_1).f4), .string ((J24 l0 x10_1).f5)] 24 (0, 0)) (by (with_reducible repeat (first | refine kN_ ?_ _ | refine kD_ ?_ | refine kA_ ?_ _)); refine blk_far ?_ NB285_291.out _; (with_reducible repeat (first | refine kN_ ?_ _ | refine kD_ ?_ | refine kA_ ?_ _)); refine blk_far ?_ NB285_291.out _; (with_reducible repeat (first | refine kN_ ?_ _ | refine kD_ ?_ | refine kA_ ?_ _)); refine blk_far ?_ NB285_291.out _; (with_reducible repeat (first | refine kN_ ?_ _ | refine kD_ ?_ | refine kA_ ?_ _)); refine blk_far ?_ NB285_291.out _; (with_reducible repeat (first | refine kN_ ?_ _ | refine kD_ ?_ | refine kA_ ?_ _)); refine blk_far ?_ NB285_291.out _; (with_reducible repeat (first | refine kN_ ?_ _ | refine kD_ ?_ | refine kA_ ?_ _)); refine blk_far ?_ NB285_291.out _; (with_reducible repeat (first | refine kN_ ?_ _ | refine kD_ ?_ | refine kA_ ?_ _)); exact BK285.out) hb); replace BK291 := aM_ (kB_ (g := gb291) (o := .cells #[.int .i64 ((J24 y286 x20_2).f0), .int .i64 ((J24 y286 x20_2).f1), .int .i64 ((J24 y286 x20_2).f2), .int .i64 ((J24 y286 x20_2).f3), .int .i64 ((J24 y286 x20_2).f4), .string ((J24 y286 x20_2).f5)] 24 (0, 0)) (by (with_reducible repeat (first | refine kN_ ?_ _ | refine kD_ ?_ | refine kA_ ?_ _)); refine blk_put (cs := #[.int .i64 ((J24 y286 x20_2).f0), .int .i64 ((J24 y286 x20_2).f1), .int .i64 ((J24 y286 x20_2).f2), .int .i64 ((J24 y286 x20_2).f3), .int .i64 ((J24 y286 x20_2).f4), .string (⟨#[]⟩ : ByteArray)]) ?_ 5 _ rfl; (with_reducible repeat (first | refine kN_ ?_ _ | refine kD_ ?_ | refine kA_ ?_ _)); refine blk_put (cs := #[.int .i64 ((J24 y286 x20_2).f0), .int .i64 ((J24 y286 x20_2).f1), .int .i64 ((J24 y286 x20_2).f2), .int .i64 ((J24 y286 x20_2).f3), .int .i64 0, .string (⟨#[]⟩ : ByteArray)]) ?_ 4 _ rfl; (with_reducible repeat (first | refine kN_ ?_ _ | refine kD_ ?_ | refine kA_ ?_ _)); refine blk_put (cs := #[.int .i64 ((J24 y286 x20_2).f0), .int .i64 ((J24 y286 x20_2).f1), .int .i64 ((J24 y286 x20_2).f2), .int .i64 0, .int .i64 0, .string (⟨#[]⟩ : ByteArray)]) ?_ 3 _ rfl; (with_reducible repeat (first | refine kN_ ?_ _ | refine kD_ ?_ | refine kA_ ?_ _)); refine blk_put (cs := #[.int .i64 ((J24 y286 x20_2).f0), .int .i64 ((J24 y286 x20_2).f1), .int .i64 0, .int .i64 0, .int .i64 0, .string (⟨#[]⟩ : ByteArray)]) ?_ 2 _ rfl; (with_reducible repeat (first | refine kN_ ?_ _ | refine kD_ ?_ | refine kA_ ?_ _)); refine blk_put (cs := #[.int .i64 ((J24 y286 x20_2).f0), .int .i64 0, .int .i64 0, .int .i64 0, .int .i64 0, .string (⟨#[]⟩ : ByteArray)]) ?_ 1 _ rfl; (with_reducible repeat (first | refine kN_ ?_ _ | refine kD_ ?_ | refine kA_ ?_ _)); refine blk_put (cs := #[.int .i64 0, .int .i64 0, .int .i64 0, .int .i64 0, .int .i64 0, .string (⟨#[]⟩ : ByteArray)]) ?_ 0 _ rfl; (with_reducible repeat (first | refine kN_ ?_ _ | refine kD_ ?_ | refine kA_ ?_ _)); exact BK291.out) hb); replace HB := aM_ (bT_ (bt_ HB GE285 GE291) hb)) | ((with_reducible refine gate_builtin (b := .append) (xs := #[.tmp 30, .tmp 38]) rfl ?_); at_builtin; refine Kd.R_append k100 (w0 := w) w.heap.size rfl (.tmp 30) (.tmp 38) 88 100 (.agg #[(.int .i64 0), (.int .i64 0), (.int .i64 0)]) 24 rfl Tryz.underlying88 info100 rfl (by decide) (by omega) u2 x2_2 (⟨x10_1, wrap64 (ji5 + x20_2), t292⟩ : S100) [.int .i64 x10_1, .int .i64 (wrap64 (ji5 + x20_2)), .int .i64 t292] (fun _ => True) (fun _ => False) rfl rfl ?aP (fun _ hk => hk.elim) ?aF ?aO ?aB ?aS ?aL ?_; (case aP => exact k100_mkM _ _ _ (⟨x10_1, wrap64 (ji5 + x20_2), t292⟩ : S100)); (case aB => exact (bt_ HB GE285 GE291)); (case aF => exact (fun _ _ => trivial)); (case aO => exact (rR_ HO_2)); (case aS => exact (bY_ (bt_ HB GE285 GE291))); (case aL => have := LMc17.out; omega); intro v294 w23 ho hb hg hat; rw [← Ny293.out] at ho; replace BK285 := aM_ (blk_grown (g := gb285) (o := .cells #[.int .i64 ((J24 l0 x10_1).f0), .int .i64 ((J24 l0 x10_1).f1), .int .i64 ((J24 l0 x10_1).f2), .int .i64 ((J24 l0 x10_1).f3), .int .i64 ((J24 l0 x10_1).f4), .string ((J24 l0 x10_1).f5)] 24 (0, 0)) (rB_ BK285) hg (Kd.R_ne HO_2.out BK285.out (by decide))); replace BK291 := aM_ (blk_grown (g := gb291) (o := .cells #[.int .i64 ((J24 y286 x20_2).f0), .int .i64 ((J24 y286 x20_2).f1), .int .i64 ((J24 y286 x20_2).f2), .int .i64 ((J24 y286 x20_2).f3), .int .i64 ((J24 y286 x20_2).f4), .string ((J24 y286 x20_2).f5)] 24 (0, 0)) (rB_ BK291) hg (Kd.R_ne HO_2.out BK291.out (by decide))); replace HB := aM_ (hb); replace HO295 := aM_ (ho); clear HO_2; clear ho hb hg hat))
               go_roundg k2
               case measure => have := HK1.out; have := HK2.out; omega
               case rel => exact ⟨(y293), (wrap64 (x20_2 + 1)), eQ_, H, ⟨by have := HK1.out; have := HK2.out; omega⟩, ⟨rR_ HO295⟩, ⟨rB_ BK285⟩, ⟨bt_ HB GE285 GE291⟩⟩
              rw [if_neg c17] at H; exact absurd H (by simp)
             rw [if_neg c16] at H; have c16b0 := dF_ c16; clear c16; replace H := aM_ H; have p290 : 0 ≤ (x20_2 : Int) := oD_; have q290 : x20_2 < (y286.length : Int) := oD_; obtain ⟨ad290, e290, hx290_0, hx290_1, hx290_2, hx290_3, hx290_4, hx290_5⟩ := at_T24 HR289.out x20_2 p290 q290
             cases e290
             replace hx290_0 := hC_ HB hx290_0; replace hx290_1 := hC_ HB hx290_1; replace hx290_2 := hC_ HB hx290_2; replace hx290_3 := hC_ HB hx290_3; replace hx290_4 := hC_ HB hx290_4; replace hx290_5 := hC_ HB hx290_5; replace p290 := eq_true p290; replace q290 := eq_true q290
             go_wp2_with (first | ((with_reducible refine gate_dst (N := 6) rfl ?_); refine bX_ (N := 6) (cs := #[.int .i64 0, .int .i64 0, .int .i64 0, .int .i64 0, .int .i64 0, .string (⟨#[]⟩ : ByteArray)]) (t := 24) ?_; intro gb291 hg w24 hbox hb; replace HO_2 := aM_ (Kd.R_below (rR_ HO_2) hb); replace BK291 := aM_ (hbox); replace GW291 := aM_ (gE_ hg (bs_ HB GE285)); replace GE291 := aM_ (gE_ hg (bs_ HB GE285)); replace HB := aM_ (bT_ (bs_ HB GE285) hb); replace NB285_291 := aM_ ((by rw [hg]; exact Nat.ne_of_lt (blk_lt (g := gb285) (o := .cells #[.int .i64 ((J24 l0 x10_1).f0), .int .i64 ((J24 l0 x10_1).f1), .int .i64 ((J24 l0 x10_1).f2), .int .i64 ((J24 l0 x10_1).f3), .int .i64 ((J24 l0 x10_1).f4), .string ((J24 l0 x10_1).f5)] 24 (0, 0)) (rB_ BK285)) : gb285 ≠ gb291)); replace NB291_285 := aM_ ((by rw [hg]; exact Nat.ne_of_gt (blk_lt (g := gb285) (o := .cells #[.int .i64 ((J24 l0 x10_1).f0), .int .i64 ((J24 l0 x10_1).f1), .int .i64 ((J24 l0 x10_1).f2), .int .i64 ((J24 l0 x10_1).f3), .int .i64 ((J24 l0 x10_1).f4), .string ((J24 l0 x10_1).f5)] 24 (0, 0)) (rB_ BK285)) : gb291 ≠ gb285)); replace BK285 := aM_ (kB_ (rB_ BK285) hb); clear hb hbox hg; have hnb25 := NB291_285.out; have hnc25 := NB285_291.out; obtain ⟨hcz26_0, hcz26_1, hcz26_2, hcz26_3, hcz26_4, hcz26_5⟩ := cl6_ BK291.out; obtain ⟨hfz26_0, hfz26_1, hfz26_2, hfz26_3, hfz26_4, hfz26_5⟩ := fz6_ BK291.out; obtain ⟨hcz27_0, hcz27_1, hcz27_2, hcz27_3, hcz27_4, hcz27_5⟩ := cl6_ BK285.out; obtain ⟨hfz27_0, hfz27_1, hfz27_2, hfz27_3, hfz27_4, hfz27_5⟩ := fz6_ BK285.out) | ((with_reducible refine gC_ (f := 84) rfl ?_); refine gL_ (some 27) Tryz.func84 #[.agg #[.int .i64 ((J24 l0 x10_1).f0), .int .i64 ((J24 l0 x10_1).f1), .int .i64 ((J24 l0 x10_1).f2), .int .i64 ((J24 l0 x10_1).f3), .int .i64 ((J24 l0 x10_1).f4), .string ((J24 l0 x10_1).f5)], .agg #[.int .i64 ((J24 y286 x20_2).f0), .int .i64 ((J24 y286 x20_2).f1), .int .i64 ((J24 y286 x20_2).f2), .int .i64 ((J24 y286 x20_2).f3), .int .i64 ((J24 y286 x20_2).f4), .string ((J24 y286 x20_2).f5)]] rfl ?_; (with_reducible refine (dag_dist.calls k2 ((J24 l0 x10_1).f0) ((J24 l0 x10_1).f1) ((J24 l0 x10_1).f2) ((J24 l0 x10_1).f3) ((J24 l0 x10_1).f4) ((J24 l0 x10_1).f5) ((J24 y286 x20_2).f0) ((J24 y286 x20_2).f1) ((J24 y286 x20_2).f2) ((J24 y286 x20_2).f3) ((J24 y286 x20_2).f4) ((J24 y286 x20_2).f5) t292 _ A15.out).mono ?_); rintro e w28 ⟨rfl, hb⟩; refine ⟨_, rfl, ?_⟩; replace HO_2 := aM_ (Kd.R_below (by (with_reducible repeat (first | apply Kd.R_alloc | apply Kd.R_drewN | apply Kd.R_drew)); exact (Kd.R_mono (Kd.R_far (p := ⟨gb291, 5, none⟩) (Kd.R_far (p := ⟨gb291, 4, none⟩) (Kd.R_far (p := ⟨gb291, 3, none⟩) (Kd.R_far (p := ⟨gb291, 2, none⟩) (Kd.R_far (p := ⟨gb291, 1, none⟩) (Kd.R_far (p := ⟨gb291, 0, none⟩) (Kd.R_types HO_2.out BK291.out (by decide)) (fun _ hk => hk.2) (.int .i64 ((J24 y286 x20_2).f0))) (fun _ hk => hk.2) (.int .i64 ((J24 y286 x20_2).f1))) (fun _ hk => hk.2) (.int .i64 ((J24 y286 x20_2).f2))) (fun _ hk => hk.2) (.int .i64 ((J24 y286 x20_2).f3))) (fun _ hk => hk.2) (.int .i64 ((J24 y286 x20_2).f4))) (fun _ hk => hk.2) (.string ((J24 y286 x20_2).f5))) (fun _ h_ => h_.1))) hb); replace BK285 := aM_ (kB_ (g := gb285) (o := .cells #[.int .i64 ((J24 l0 x10_1).f0), .int .i64 ((J24 l0 x10_1).f1), .int .i64 ((J24 l0 x10_1).f2), .int .i64 ((J24 l0 x10_1).f3), .int .i64 ((J24 l0 x10_1).f4), .string ((J24 l0 x10_1).f5)] 24 (0, 0)) (by (with_reducible repeat (first | refine kN_ ?_ _ | refine kD_ ?_ | refine kA_ ?_ _)); refine blk_far ?_ NB285_291.out _; (with_reducible repeat (first | refine kN_ ?_ _ | refine kD_ ?_ | refine kA_ ?_ _)); refine blk_far ?_ NB285_291.out _; (with_reducible repeat (first | refine kN_ ?_ _ | refine kD_ ?_ | refine kA_ ?_ _)); refine blk_far ?_ NB285_291.out _; (with_reducible repeat (first | refine kN_ ?_ _ | refine kD_ ?_ | refine kA_ ?_ _)); refine blk_far ?_ NB285_291.out _; (with_reducible repeat (first | refine kN_ ?_ _ | refine kD_ ?_ | refine kA_ ?_ _)); refine blk_far ?_ NB285_291.out _; (with_reducible repeat (first | refine kN_ ?_ _ | refine kD_ ?_ | refine kA_ ?_ _)); refine blk_far ?_ NB285_291.out _; (with_reducible repeat (first | refine kN_ ?_ _ | refine kD_ ?_ | refine kA_ ?_ _)); exact BK285.out) hb); replace BK291 := aM_ (kB_ (g := gb291) (o := .cells #[.int .i64 ((J24 y286 x20_2).f0), .int .i64 ((J24 y286 x20_2).f1), .int .i64 ((J24 y286 x20_2).f2), .int .i64 ((J24 y286 x20_2).f3), .int .i64 ((J24 y286 x20_2).f4), .string ((J24 y286 x20_2).f5)] 24 (0, 0)) (by (with_reducible repeat (first | refine kN_ ?_ _ | refine kD_ ?_ | refine kA_ ?_ _)); refine blk_put (cs := #[.int .i64 ((J24 y286 x20_2).f0), .int .i64 ((J24 y286 x20_2).f1), .int .i64 ((J24 y286 x20_2).f2), .int .i64 ((J24 y286 x20_2).f3), .int .i64 ((J24 y286 x20_2).f4), .string (⟨#[]⟩ : ByteArray)]) ?_ 5 _ rfl; (with_reducible repeat (first | refine kN_ ?_ _ | refine kD_ ?_ | refine kA_ ?_ _)); refine blk_put (cs := #[.int .i64 ((J24 y286 x20_2).f0), .int .i64 ((J24 y286 x20_2).f1), .int .i64 ((J24 y286 x20_2).f2), .int .i64 ((J24 y286 x20_2).f3), .int .i64 0, .string (⟨#[]⟩ : ByteArray)]) ?_ 4 _ rfl; (with_reducible repeat (first | refine kN_ ?_ _ | refine kD_ ?_ | refine kA_ ?_ _)); refine blk_put (cs := #[.int .i64 ((J24 y286 x20_2).f0), .int .i64 ((J24 y286 x20_2).f1), .int .i64 ((J24 y286 x20_2).f2), .int .i64 0, .int .i64 0, .string (⟨#[]⟩ : ByteArray)]) ?_ 3 _ rfl; (with_reducible repeat (first | refine kN_ ?_ _ | refine kD_ ?_ | refine kA_ ?_ _)); refine blk_put (cs := #[.int .i64 ((J24 y286 x20_2).f0), .int .i64 ((J24 y286 x20_2).f1), .int .i64 0, .int .i64 0, .int .i64 0, .string (⟨#[]⟩ : ByteArray)]) ?_ 2 _ rfl; (with_reducible repeat (first | refine kN_ ?_ _ | refine kD_ ?_ | refine kA_ ?_ _)); refine blk_put (cs := #[.int .i64 ((J24 y286 x20_2).f0), .int .i64 0, .int .i64 0, .int .i64 0, .int .i64 0, .string (⟨#[]⟩ : ByteArray)]) ?_ 1 _ rfl; (with_reducible repeat (first | refine kN_ ?_ _ | refine kD_ ?_ | refine kA_ ?_ _)); refine blk_put (cs := #[.int .i64 0, .int .i64 0, .int .i64 0, .int .i64 0, .int .i64 0, .string (⟨#[]⟩ : ByteArray)]) ?_ 0 _ rfl; (with_reducible repeat (first | refine kN_ ?_ _ | refine kD_ ?_ | refine kA_ ?_ _)); exact BK291.out) hb); replace HB := aM_ (bT_ (bt_ HB GE285 GE291) hb)))
             go_roundg k2
             case measure => have := HK1.out; have := HK2.out; omega
             case rel => exact ⟨(x2_2), (wrap64 (x20_2 + 1)), eQ_, H, ⟨by have := HK1.out; have := HK2.out; omega⟩, ⟨rR_ HO_2⟩, ⟨rB_ BK285⟩, ⟨bt_ HB GE285 GE291⟩⟩
            rw [if_neg c14] at H; exact absurd H (by simp)
           rw [if_neg c13] at H; exact absurd H (by simp)
          rw [if_neg c12] at H; have c12b0 := dF_ c12; clear c12; replace H := aM_ H; go_wp2
          go_roundg k2
          case measure => have := HK1.out; have := HK2.out; omega
          case rel => exact ⟨(x2_2), (wrap64 (x10_1 + 1)), eQ_, H, ⟨by have := HK1.out; have := HK2.out; omega⟩, ⟨rR_ HO_2⟩, ⟨bs_ HB GE285⟩⟩
       rw [if_neg c7] at H; exact absurd H (by simp)
      rw [if_neg c6] at H; exact absurd H (by simp)
     rw [if_neg c4] at H; exact absurd H (by simp)
    rw [if_neg c3] at H; exact absurd H (by simp)
   rw [if_neg c2] at H; have c2b0 := dF_ c2; clear c2; obtain rfl := oI_ H; go_wp2; go_ret; exact ⟨_, eR_, rR_ HO_2, bl_ HB⟩
mutual
def isa_May.j0 : Nat → Int → Int → Bool → Option (Bool)
  | 0, _, _, _ => none
  | k + 1, x0, x1, x15 => if x15 = true then (some false) else (if x0 = 0 then (some true) else (if x0 = 14 then (isa_May.j1 k x0 x1 x0 (x0 == 14)) else (if x0 = 15 then (isa_May.j1 k x0 x1 x0 (x0 == 15)) else (if x0 = 16 then (isa_May.j1 k x0 x1 x0 (x0 == 16)) else (if x0 = 17 then (isa_May.j1 k x0 x1 x0 (x0 == 17)) else (isa_May.j1 k x0 x1 x0 (x0 == 20)))))))
def isa_May.j1 : Nat → Int → Int → Int → Bool → Option (Bool)
  | 0, _, _, _, _ => none
  | k + 1, x0, x1, x16, x19 => if x19 = true then (some (x1 == 3)) else (if x16 = 18 then (isa_May.j2 k x0 x1 x16 (x16 == 18)) else (if x16 = 19 then (isa_May.j2 k x0 x1 x16 (x16 == 19)) else (isa_May.j2 k x0 x1 x16 (x16 == 21))))
def isa_May.j2 : Nat → Int → Int → Int → Bool → Option (Bool)
  | 0, _, _, _, _ => none
  | k + 1, x0, x1, x16, x27 => if x27 = true then (some (x1 == 1)) else (if x16 = 24 then (isa_May.j3 k x0 x1 (x16 == 24)) else (if x16 = 25 then (isa_May.j3 k x0 x1 (x16 == 25)) else (if x16 = 26 then (isa_May.j3 k x0 x1 (x16 == 26)) else (isa_May.j3 k x0 x1 (x16 == 27)))))
def isa_May.j3 : Nat → Int → Int → Bool → Option (Bool)
  | 0, _, _, _ => none
  | k + 1, x0, x1, x33 => if x33 = true then (some (x1 == 2)) else (if x1 = 0 then (some true) else (if x1 = 1 then ((isa_Ends.f x0).bind fun t323 => (some (!t323))) else (some false)))
end
def isa_May.f (k : Nat) (a0 : Int) (a1 : Int) : Option (Bool) := (isa_Is.f a0).bind fun t322 => (if t322 = true then (if a1 < 0 then (isa_May.j0 k a0 a1 true) else (isa_May.j0 k a0 a1 (decide (a1 > 3)))) else (isa_May.j0 k a0 a1 true))
theorem isa_May.mono_l : ∀ k, (∀ y0 y1 y2, LeO (isa_May.j0 k y0 y1 y2) (isa_May.j0 (k + 1) y0 y1 y2)) ∧ (∀ y0 y1 y2 y3, LeO (isa_May.j1 k y0 y1 y2 y3) (isa_May.j1 (k + 1) y0 y1 y2 y3)) ∧ (∀ y0 y1 y2 y3, LeO (isa_May.j2 k y0 y1 y2 y3) (isa_May.j2 (k + 1) y0 y1 y2 y3)) ∧ (∀ y0 y1 y2, LeO (isa_May.j3 k y0 y1 y2) (isa_May.j3 (k + 1) y0 y1 y2))
  | 0 => ⟨fun _ _ _ r h => by simp [isa_May.j0] at h, fun _ _ _ _ r h => by simp [isa_May.j1] at h, fun _ _ _ _ r h => by simp [isa_May.j2] at h, fun _ _ _ r h => by simp [isa_May.j3] at h⟩
  | k + 1 => by
    obtain ⟨ih0, ih1, ih2, ih3⟩ := isa_May.mono_l k; refine ⟨?_, ?_, ?_, ?_⟩
    · intro y0 y1 y2; unfold isa_May.j0
      repeat' first
      | (with_reducible exact ih0 _ _ _)
      | (with_reducible exact ih1 _ _ _ _)
      | (with_reducible exact ih2 _ _ _ _)
      | (with_reducible exact ih3 _ _ _)
      | (with_reducible exact LeO.refl _)
      | (with_reducible exact LeO.none _)
      | (with_reducible refine LeO.ite ?_ ?_)
      | (with_reducible refine LeO.bind ?_ (fun _ => ?_))
      | exact LeO.none _
      | refine LeO.ite ?_ ?_
      | refine LeO.bind ?_ (fun _ => ?_)
    · intro y0 y1 y2 y3; unfold isa_May.j1
      repeat' first
      | (with_reducible exact ih0 _ _ _)
      | (with_reducible exact ih1 _ _ _ _)
      | (with_reducible exact ih2 _ _ _ _)
      | (with_reducible exact ih3 _ _ _)
      | (with_reducible exact LeO.refl _)
      | (with_reducible exact LeO.none _)
      | (with_reducible refine LeO.ite ?_ ?_)
      | (with_reducible refine LeO.bind ?_ (fun _ => ?_))
      | exact LeO.none _
      | refine LeO.ite ?_ ?_
      | refine LeO.bind ?_ (fun _ => ?_)
    · intro y0 y1 y2 y3; unfold isa_May.j2
      repeat' first
      | (with_reducible exact ih0 _ _ _)
      | (with_reducible exact ih1 _ _ _ _)
      | (with_reducible exact ih2 _ _ _ _)
      | (with_reducible exact ih3 _ _ _)
      | (with_reducible exact LeO.refl _)
      | (with_reducible exact LeO.none _)
      | (with_reducible refine LeO.ite ?_ ?_)
      | (with_reducible refine LeO.bind ?_ (fun _ => ?_))
      | exact LeO.none _
      | refine LeO.ite ?_ ?_
      | refine LeO.bind ?_ (fun _ => ?_)
    · intro y0 y1 y2; unfold isa_May.j3
      repeat' first
      | (with_reducible exact ih0 _ _ _)
      | (with_reducible exact ih1 _ _ _ _)
      | (with_reducible exact ih2 _ _ _ _)
      | (with_reducible exact ih3 _ _ _)
      | (with_reducible exact LeO.refl _)
      | (with_reducible exact LeO.none _)
      | (with_reducible refine LeO.ite ?_ ?_)
      | (with_reducible refine LeO.bind ?_ (fun _ => ?_))
      | exact LeO.none _
      | refine LeO.ite ?_ ?_
      | refine LeO.bind ?_ (fun _ => ?_)
theorem isa_May.mono : ∀ a0 a1 k, LeO (isa_May.f k a0 a1) (isa_May.f (k + 1) a0 a1) := by
 intro a0 a1 k; obtain ⟨ih0, ih1, ih2, ih3⟩ := isa_May.mono_l k; unfold isa_May.f
 repeat' first
  | (with_reducible exact ih0 _ _ _)
  | (with_reducible exact ih1 _ _ _ _)
  | (with_reducible exact ih2 _ _ _ _)
  | (with_reducible exact ih3 _ _ _)
  | (with_reducible exact LeO.refl _)
  | (with_reducible exact LeO.none _)
  | (with_reducible refine LeO.ite ?_ ?_)
  | (with_reducible refine LeO.bind ?_ (fun _ => ?_))
  | exact LeO.none _
  | refine LeO.ite ?_ ?_
  | refine LeO.bind ?_ (fun _ => ?_)
theorem isa_May.calls (k : Nat) (a0 : Int) (a1 : Int) (r : Bool) (w : World) (h : isa_May.f k a0 a1 = some r) :
    Calls Tryz.prog 51 #[.int .i64 a0, .int .i64 a1] w fun e w' => e = .returned (.bool r) ∧ Dr_ w w' := by
 have H : ((isa_Is.f a0).bind fun t322 => (if t322 = true then (if a1 < 0 then (isa_May.j0 k a0 a1 true) else (isa_May.j0 k a0 a1 (decide (a1 > 3)))) else (isa_May.j0 k a0 a1 true))) = some r := h; clear h; have HC3 := aM_ H; clear H; go_enter Tryz.func51, Tryz.ntmps51
 go_upto_region 1 with (fail)
 go_cut [15] (fun v15 wc => ∃ (kq : Nat) (x15_2 : Bool), v15 = .bool x15_2 ∧ As_ (isa_May.j0 kq a0 a1 x15_2 = some r) ∧ As_ (kq ≤ k) ∧ Dr_ w wc)
 case first =>
  have H := HC3.out; clear HC3; obtain ⟨t322, A4, H⟩ := oB_ H
  by_cases c5 : t322 = true
  ·subst c5; rw [if_pos rfl] at H
   by_cases c6 : a1 < 0
   ·rw [if_pos c6] at H; have c6b0 := dE_ c6; clear c6
    (first | rw [c6b0] | (simp only [i64_w, i32_w]; rw [c6b0]) | skip)
    replace H := aM_ H
    go_wp2_with (first | ((with_reducible refine gC_ (f := 83) rfl ?_); refine gL_ (some 6) Tryz.func83 #[.int .i64 a0] rfl ?_; (with_reducible refine (isa_Is.calls a0 true _ A4.out).mono ?_); rintro e w' ⟨rfl, ⟨nd, rfl⟩⟩; refine ⟨_, rfl, ?_⟩))
    go_meet
    case rel => exact ⟨_, (true), eQ_, H, ⟨by first | omega | exact Nat.le_refl _⟩, dR_⟩
   rw [if_neg c6] at H; have c6b0 := dF_ c6; clear c6
   (first | rw [c6b0] | (simp only [i64_w, i32_w]; rw [c6b0]) | skip)
   replace H := aM_ H
   go_wp2_with (first | ((with_reducible refine gC_ (f := 83) rfl ?_); refine gL_ (some 6) Tryz.func83 #[.int .i64 a0] rfl ?_; (with_reducible refine (isa_Is.calls a0 true _ A4.out).mono ?_); rintro e w' ⟨rfl, ⟨nd, rfl⟩⟩; refine ⟨_, rfl, ?_⟩))
   go_meet
   case rel => exact ⟨_, (decide (a1 > 3)), eQ_, H, ⟨by first | omega | exact Nat.le_refl _⟩, dR_⟩
  replace c5 := eF_ c5; subst c5; rw [if_neg Bool.false_ne_true] at H; replace H := aM_ H
  go_wp2_with (first | ((with_reducible refine gC_ (f := 83) rfl ?_); refine gL_ (some 6) Tryz.func83 #[.int .i64 a0] rfl ?_; (with_reducible refine (isa_Is.calls a0 false _ A4.out).mono ?_); rintro e w' ⟨rfl, ⟨nd, rfl⟩⟩; refine ⟨_, rfl, ?_⟩))
  go_meet
  case rel => exact ⟨_, (true), eQ_, H, ⟨by first | omega | exact Nat.le_refl _⟩, dR_⟩
 case rest =>
  clear HC3; obtain ⟨kq, x15_2, rfl, HA, HJ2, ⟨mc2, rfl⟩⟩ := hcut
  cases kq with
  | zero => exact absurd HA.out (by simp [isa_May.j0])
  | succ kj2 =>
   have H := HA.out; clear HA; simp only [isa_May.j0] at H
   by_cases c7 : x15_2 = true
   ·subst c7; rw [if_pos rfl] at H; obtain rfl := oI_ H; go_wp2; go_ret; exact ⟨eQ_, dR_⟩
   replace c7 := eF_ c7; subst c7; rw [if_neg Bool.false_ne_true] at H
   by_cases c8 : a0 = 0
   ·rw [if_pos c8] at H; have c8b0 := bH_ c8; have c8b1 := bF_ c8; clear c8; obtain rfl := oI_ H; go_wp2; go_ret; exact ⟨eQ_, dR_⟩
   rw [if_neg c8] at H; have c8b0 := bE_ c8; have c8b1 := bG_ c8; have HC9 := aM_ H; clear H
   go_upto_if 19 with (fail)
   go_cut [19] (fun v19 wc => ∃ (kq : Nat) (x19_8 : Bool), v19 = .bool x19_8 ∧ As_ (isa_May.j1 kq a0 a1 a0 x19_8 = some r) ∧ As_ (kq ≤ kj2) ∧ Dr_ w wc)
   case first =>
    have H := HC9.out; clear HC9
    by_cases c10 : a0 = 14
    ·rw [if_pos c10] at H; have c10b0 := bH_ c10; have c10b1 := bF_ c10; clear c10
     (first | rw [c10b0] | (simp only [i64_w, i32_w]; rw [c10b0]) | skip)
     replace H := aM_ H; go_wp2
     go_meet
     case rel => exact ⟨_, ((a0 == 14)), eQ_, H, ⟨by have := HJ2.out; first | omega | exact Nat.le_refl _⟩, dR_⟩
    rw [if_neg c10] at H; have c10b0 := bE_ c10; have c10b1 := bG_ c10
    (first | rw [c10b0] | (simp only [i64_w, i32_w]; rw [c10b0]) | skip)
    by_cases c11 : a0 = 15
    ·rw [if_pos c11] at H; have c11b0 := bH_ c11; have c11b1 := bF_ c11; clear c11; replace H := aM_ H; go_wp2
     go_meet
     case rel => exact ⟨_, ((a0 == 15)), eQ_, H, ⟨by have := HJ2.out; first | omega | exact Nat.le_refl _⟩, dR_⟩
    rw [if_neg c11] at H; have c11b0 := bE_ c11; have c11b1 := bG_ c11
    by_cases c12 : a0 = 16
    ·rw [if_pos c12] at H; have c12b0 := bH_ c12; have c12b1 := bF_ c12; clear c12; replace H := aM_ H; go_wp2
     go_meet
     case rel => exact ⟨_, ((a0 == 16)), eQ_, H, ⟨by have := HJ2.out; first | omega | exact Nat.le_refl _⟩, dR_⟩
    rw [if_neg c12] at H; have c12b0 := bE_ c12; have c12b1 := bG_ c12
    by_cases c13 : a0 = 17
    ·rw [if_pos c13] at H; have c13b0 := bH_ c13; have c13b1 := bF_ c13; clear c13; replace H := aM_ H; go_wp2
     go_meet
     case rel => exact ⟨_, ((a0 == 17)), eQ_, H, ⟨by have := HJ2.out; first | omega | exact Nat.le_refl _⟩, dR_⟩
    rw [if_neg c13] at H; have c13b0 := bE_ c13; have c13b1 := bG_ c13; replace H := aM_ H; go_wp2
    go_meet
    case rel => exact ⟨_, ((a0 == 20)), eQ_, H, ⟨by have := HJ2.out; first | omega | exact Nat.le_refl _⟩, dR_⟩
   case rest =>
    clear HC9; obtain ⟨kq, x19_8, rfl, HA, HJ8, ⟨mc8, rfl⟩⟩ := hcut
    cases kq with
    | zero => exact absurd HA.out (by simp [isa_May.j1])
    | succ kj8 =>
     have H := HA.out; clear HA; simp only [isa_May.j1] at H
     by_cases c14 : x19_8 = true
     ·subst c14; rw [if_pos rfl] at H; obtain rfl := oI_ H; go_wp2; go_ret; exact ⟨eQ_, dR_⟩
     replace c14 := eF_ c14; subst c14; rw [if_neg Bool.false_ne_true] at H; have HC15 := aM_ H; clear H
     go_upto_if 27 with (fail)
     go_cut [27] (fun v27 wc => ∃ (kq : Nat) (x27_14 : Bool), v27 = .bool x27_14 ∧ As_ (isa_May.j2 kq a0 a1 a0 x27_14 = some r) ∧ As_ (kq ≤ kj8) ∧ Dr_ w wc)
     case first =>
      have H := HC15.out; clear HC15
      by_cases c16 : a0 = 18
      ·rw [if_pos c16] at H; have c16b0 := bH_ c16; have c16b1 := bF_ c16; clear c16
       (first | rw [c16b0] | (simp only [i64_w, i32_w]; rw [c16b0]) | skip)
       replace H := aM_ H; go_wp2
       go_meet
       case rel => exact ⟨_, ((a0 == 18)), eQ_, H, ⟨by have := HJ2.out; have := HJ8.out; first | omega | exact Nat.le_refl _⟩, dR_⟩
      rw [if_neg c16] at H; have c16b0 := bE_ c16; have c16b1 := bG_ c16
      (first | rw [c16b0] | (simp only [i64_w, i32_w]; rw [c16b0]) | skip)
      by_cases c17 : a0 = 19
      ·rw [if_pos c17] at H; have c17b0 := bH_ c17; have c17b1 := bF_ c17; clear c17; replace H := aM_ H; go_wp2
       go_meet
       case rel => exact ⟨_, ((a0 == 19)), eQ_, H, ⟨by have := HJ2.out; have := HJ8.out; first | omega | exact Nat.le_refl _⟩, dR_⟩
      rw [if_neg c17] at H; have c17b0 := bE_ c17; have c17b1 := bG_ c17; replace H := aM_ H; go_wp2
      go_meet
      case rel => exact ⟨_, ((a0 == 21)), eQ_, H, ⟨by have := HJ2.out; have := HJ8.out; first | omega | exact Nat.le_refl _⟩, dR_⟩
     case rest =>
      clear HC15; obtain ⟨kq, x27_14, rfl, HA, HJ14, ⟨mc14, rfl⟩⟩ := hcut
      cases kq with
      | zero => exact absurd HA.out (by simp [isa_May.j2])
      | succ kj14 =>
       have H := HA.out; clear HA; simp only [isa_May.j2] at H
       by_cases c18 : x27_14 = true
       ·subst c18; rw [if_pos rfl] at H; obtain rfl := oI_ H; go_wp2; go_ret; exact ⟨eQ_, dR_⟩
       replace c18 := eF_ c18; subst c18; rw [if_neg Bool.false_ne_true] at H; have HC19 := aM_ H; clear H
       go_upto_if 33 with (fail)
       go_cut [33] (fun v33 wc => ∃ (kq : Nat) (x33_18 : Bool), v33 = .bool x33_18 ∧ As_ (isa_May.j3 kq a0 a1 x33_18 = some r) ∧ As_ (kq ≤ kj14) ∧ Dr_ w wc)
       case first =>
        have H := HC19.out; clear HC19
        by_cases c20 : a0 = 24
        ·rw [if_pos c20] at H; have c20b0 := bH_ c20; have c20b1 := bF_ c20; clear c20
         (first | rw [c20b0] | (simp only [i64_w, i32_w]; rw [c20b0]) | skip)
         replace H := aM_ H; go_wp2
         go_meet
         case rel => exact ⟨_, ((a0 == 24)), eQ_, H, ⟨by have := HJ2.out; have := HJ8.out; have := HJ14.out; first | omega | exact Nat.le_refl _⟩, dR_⟩
        rw [if_neg c20] at H; have c20b0 := bE_ c20; have c20b1 := bG_ c20
        (first | rw [c20b0] | (simp only [i64_w, i32_w]; rw [c20b0]) | skip)
        by_cases c21 : a0 = 25
        ·rw [if_pos c21] at H; have c21b0 := bH_ c21; have c21b1 := bF_ c21; clear c21; replace H := aM_ H; go_wp2
         go_meet
         case rel => exact ⟨_, ((a0 == 25)), eQ_, H, ⟨by have := HJ2.out; have := HJ8.out; have := HJ14.out; first | omega | exact Nat.le_refl _⟩, dR_⟩
        rw [if_neg c21] at H; have c21b0 := bE_ c21; have c21b1 := bG_ c21
        by_cases c22 : a0 = 26
        ·rw [if_pos c22] at H; have c22b0 := bH_ c22; have c22b1 := bF_ c22; clear c22; replace H := aM_ H; go_wp2
         go_meet
         case rel => exact ⟨_, ((a0 == 26)), eQ_, H, ⟨by have := HJ2.out; have := HJ8.out; have := HJ14.out; first | omega | exact Nat.le_refl _⟩, dR_⟩
        rw [if_neg c22] at H; have c22b0 := bE_ c22; have c22b1 := bG_ c22; replace H := aM_ H; go_wp2
        go_meet
        case rel => exact ⟨_, ((a0 == 27)), eQ_, H, ⟨by have := HJ2.out; have := HJ8.out; have := HJ14.out; first | omega | exact Nat.le_refl _⟩, dR_⟩
       case rest =>
        clear HC19; obtain ⟨kq, x33_18, rfl, HA, HJ18, ⟨mc18, rfl⟩⟩ := hcut
        cases kq with
        | zero => exact absurd HA.out (by simp [isa_May.j3])
        | succ kj18 =>
         have H := HA.out; clear HA; simp only [isa_May.j3] at H
         by_cases c23 : x33_18 = true
         ·subst c23; rw [if_pos rfl] at H; obtain rfl := oI_ H; go_wp2; go_ret; exact ⟨eQ_, dR_⟩
         replace c23 := eF_ c23; subst c23; rw [if_neg Bool.false_ne_true] at H
         by_cases c24 : a1 = 0
         ·rw [if_pos c24] at H; have c24b0 := bH_ c24; have c24b1 := bF_ c24; clear c24; obtain rfl := oI_ H; go_wp2; go_ret; exact ⟨eQ_, dR_⟩
         rw [if_neg c24] at H; have c24b0 := bE_ c24; have c24b1 := bG_ c24
         by_cases c25 : a1 = 1
         ·rw [if_pos c25] at H; have c25b0 := bH_ c25; have c25b1 := bF_ c25; clear c25; obtain ⟨t323, A26, H⟩ := oB_ H; obtain rfl := oI_ H
          go_wp2_with (first | (go_at_call 60; (with_reducible refine (isa_Ends.calls a0 t323 _ A26.out).mono ?_); rintro e w' ⟨rfl, ⟨nd, rfl⟩⟩))
          go_ret; exact ⟨eQ_, dR_⟩
         rw [if_neg c25] at H; have c25b0 := bE_ c25; have c25b1 := bG_ c25; obtain rfl := oI_ H; go_wp2; go_ret; exact ⟨eQ_, dR_⟩
end
section
attribute [local go_sem] max2_int min2_int max_two min_two max_three min_three max_four min_four
def IsS79 (w0 W : World) (g : Nat) (f0 : List (S24)) (f1 : List (List (S100))) (f2 : List Int) (f3 : List Int) (f4 : List Int) (f5 : List Int) (f6 : Int) : Prop := ∃ A0 c0, ∃ A1 c1, ∃ A2 c2, ∃ A3 c3, ∃ A4 c4, ∃ A5 c5, W.heap[g]? = some (.cells #[.slice A0 f0.length c0, .slice A1 f1.length c1, .slice A2 f2.length c2, .slice A3 f3.length c3, .slice A4 f4.length c4, .slice A5 f5.length c5, .int .i64 f6] 79 (0, 0)) ∧ w0.heap.size ≤ g ∧ Kd.C k24 w0 A0 f0.length f0 ∧ Kd.C (Kd.slice 100 k100) w0 A1 f1.length f1 ∧ Kd.C (Kd.int .i64) w0 A2 f2.length f2 ∧ Kd.C (Kd.int .i64) w0 A3 f3.length f3 ∧ Kd.C (Kd.int .i64) w0 A4 f4.length f4 ∧ Kd.C (Kd.int .i64) w0 A5 f5.length f5
theorem IsS79.grown {w0 W : World} {g : Nat} {f0 : List (S24)} {f1 : List (List (S100))} {f2 : List Int} {f3 : List Int} {f4 : List Int} {f5 : List Int} {f6 : Int} {W1 : World} {row : Option Nat} (h : IsS79 w0 W g f0 f1 f2 f3 f4 f5 f6) (hw : W.grownBy W1 row) (hne : some g ≠ row) : IsS79 w0 W1 g f0 f1 f2 f3 f4 f5 f6 := by
 obtain ⟨A0, c0, A1, c1, A2, c2, A3, c3, A4, c4, A5, c5, hb, hg, hr0, hr1, hr2, hr3, hr4, hr5⟩ := h; exact ⟨A0, c0, A1, c1, A2, c2, A3, c3, A4, c4, A5, c5, blk_grown hb hw hne, hg, hr0, hr1, hr2, hr3, hr4, hr5⟩
theorem IsS79.kept {w0 W : World} {g : Nat} {f0 : List (S24)} {f1 : List (List (S100))} {f2 : List Int} {f3 : List Int} {f4 : List Int} {f5 : List Int} {f6 : Int} {W1 : World} {S : Nat → Prop} (h : IsS79 w0 W g f0 f1 f2 f3 f4 f5 f6) (hk : Kept W W1 S) (hne : ¬ S g) : IsS79 w0 W1 g f0 f1 f2 f3 f4 f5 f6 := by
 obtain ⟨A0, c0, A1, c1, A2, c2, A3, c3, A4, c4, A5, c5, hb, hg, hr0, hr1, hr2, hr3, hr4, hr5⟩ := h; exact ⟨A0, c0, A1, c1, A2, c2, A3, c3, A4, c4, A5, c5, blk_kept hb hk hne, hg, hr0, hr1, hr2, hr3, hr4, hr5⟩
theorem IsS79.below {w0 W : World} {g : Nat} {f0 : List (S24)} {f1 : List (List (S100))} {f2 : List Int} {f3 : List Int} {f4 : List Int} {f5 : List Int} {f6 : Int} {W1 : World} (h : IsS79 w0 W g f0 f1 f2 f3 f4 f5 f6) (hw : Below W.heap.size W W1) : IsS79 w0 W1 g f0 f1 f2 f3 f4 f5 f6 := h.grown (grown_of_below hw none) (by simp)
theorem IsS79.alloc {w0 W : World} {g : Nat} {f0 : List (S24)} {f1 : List (List (S100))} {f2 : List Int} {f3 : List Int} {f4 : List Int} {f5 : List Int} {f6 : Int} (h : IsS79 w0 W g f0 f1 f2 f3 f4 f5 f6) (o : Obj) : IsS79 w0 (W.alloc o) g f0 f1 f2 f3 f4 f5 f6 := h.below (bA_ (Below.refl _ _) o)
theorem IsS79.drewN {w0 W : World} {g : Nat} {f0 : List (S24)} {f1 : List (List (S100))} {f2 : List Int} {f3 : List Int} {f4 : List Int} {f5 : List Int} {f6 : Int} (h : IsS79 w0 W g f0 f1 f2 f3 f4 f5 f6) (m : Nat) : IsS79 w0 (W.drewN m) g f0 f1 f2 f3 f4 f5 f6 := h
theorem IsS79.drew {w0 W : World} {g : Nat} {f0 : List (S24)} {f1 : List (List (S100))} {f2 : List Int} {f3 : List Int} {f4 : List Int} {f5 : List Int} {f6 : Int} (h : IsS79 w0 W g f0 f1 f2 f3 f4 f5 f6) : IsS79 w0 W.drew g f0 f1 f2 f3 f4 f5 f6 := h
theorem IsS79.at_ {w0 W : World} {g : Nat} {f0 : List (S24)} {f1 : List (List (S100))} {f2 : List Int} {f3 : List Int} {f4 : List Int} {f5 : List Int} {f6 : Int} {w' : World} {m : Nat} (hq : W.drewN m = w') (h : IsS79 w0 W g f0 f1 f2 f3 f4 f5 f6) : IsS79 w0 w' g f0 f1 f2 f3 f4 f5 f6 := by subst hq; exact IsS79.drewN h m
theorem IsS79.apart {w0 W : World} {g : Nat} {f0 : List (S24)} {f1 : List (List (S100))} {f2 : List Int} {f3 : List Int} {f4 : List Int} {f5 : List Int} {f6 : Int} {α : Type} {d : Kd α} {e : Nat} {base : Nat} {ok : Nat → Prop} {v : Value} {xs : List α} (h : IsS79 w0 W g f0 f1 f2 f3 f4 f5 f6) (ho : d.R e W base ok v xs) (ht : ∀ q, q ∈ e :: d.E → q ≠ 79) : d.R e W base (fun k => ok k ∧ k ≠ g) v xs := by
 obtain ⟨A0, c0, A1, c1, A2, c2, A3, c3, A4, c4, A5, c5, hb, hg, hr0, hr1, hr2, hr3, hr4, hr5⟩ := h; exact Kd.R_types ho hb ht
theorem IsS79.own_ne {w0 W : World} {g : Nat} {f0 : List (S24)} {f1 : List (List (S100))} {f2 : List Int} {f3 : List Int} {f4 : List Int} {f5 : List Int} {f6 : Int} {α : Type} {d : Kd α} {e : Nat} {base : Nat} {ok : Nat → Prop} {v : Value} {xs : List α} (h : IsS79 w0 W g f0 f1 f2 f3 f4 f5 f6) (ho : d.R e W base ok v xs) (ht : e ≠ 79) : some g ≠ v.ownBlock := by
 obtain ⟨A0, c0, A1, c1, A2, c2, A3, c3, A4, c4, A5, c5, hb, hg, hr0, hr1, hr2, hr3, hr4, hr5⟩ := h; exact Kd.R_ne ho hb ht
theorem IsS79.lt {w0 W : World} {g : Nat} {f0 : List (S24)} {f1 : List (List (S100))} {f2 : List Int} {f3 : List Int} {f4 : List Int} {f5 : List Int} {f6 : Int} (h : IsS79 w0 W g f0 f1 f2 f3 f4 f5 f6) : g < W.heap.size := by
 obtain ⟨A0, c0, A1, c1, A2, c2, A3, c3, A4, c4, A5, c5, hb, hg, hr0, hr1, hr2, hr3, hr4, hr5⟩ := h; exact blk_lt hb
theorem IsS79.ge {w0 W : World} {g : Nat} {f0 : List (S24)} {f1 : List (List (S100))} {f2 : List Int} {f3 : List Int} {f4 : List Int} {f5 : List Int} {f6 : Int} (h : IsS79 w0 W g f0 f1 f2 f3 f4 f5 f6) : w0.heap.size ≤ g := by
 obtain ⟨A0, c0, A1, c1, A2, c2, A3, c3, A4, c4, A5, c5, hb, hg, hr0, hr1, hr2, hr3, hr4, hr5⟩ := h; exact hg
theorem IsS79.new (w0 W : World) (A0 : Option Addr) (c0 : Nat) (A1 : Option Addr) (c1 : Nat) (A2 : Option Addr) (c2 : Nat) (A3 : Option Addr) (c3 : Nat) (A4 : Option Addr) (c4 : Nat) (A5 : Option Addr) (c5 : Nat) (f0 : List (S24)) (f1 : List (List (S100))) (f2 : List Int) (f3 : List Int) (f4 : List Int) (f5 : List Int) (f6 : Int) (hB : Below w0.heap.size w0 W) (hr0 : Kd.C k24 w0 A0 f0.length f0) (hr1 : Kd.C (Kd.slice 100 k100) w0 A1 f1.length f1) (hr2 : Kd.C (Kd.int .i64) w0 A2 f2.length f2) (hr3 : Kd.C (Kd.int .i64) w0 A3 f3.length f3) (hr4 : Kd.C (Kd.int .i64) w0 A4 f4.length f4) (hr5 : Kd.C (Kd.int .i64) w0 A5 f5.length f5) : IsS79 w0 (W.alloc (.cells #[.slice A0 f0.length c0, .slice A1 f1.length c1, .slice A2 f2.length c2, .slice A3 f3.length c3, .slice A4 f4.length c4, .slice A5 f5.length c5, .int .i64 f6] 79)) W.heap.size f0 f1 f2 f3 f4 f5 f6 := ⟨A0, c0, A1, c1, A2, c2, A3, c3, A4, c4, A5, c5, by simpa using heap_alloc_new W _, hB.size, hr0, hr1, hr2, hr3, hr4, hr5⟩
def block_Plain.f (k : Nat) (a0_0 : Int) (a0_1 : Int) (a0_2 : Int) (a0_3 : Int) (a0_4 : Int) (a0_5 : ByteArray) : Option (Bool) := (isa_IsIns.f k a0_0 a0_1 a0_2 a0_3 a0_4 a0_5).bind fun t347 => (if t347 = true then ((isa_Ends.f a0_0).bind fun t348 => (if t348 = true then (some false) else (some (a0_0 != 0)))) else (some false))
theorem block_Plain.calls (k : Nat) (a0_0 : Int) (a0_1 : Int) (a0_2 : Int) (a0_3 : Int) (a0_4 : Int) (a0_5 : ByteArray) (r : Bool) (w : World) (h : block_Plain.f k a0_0 a0_1 a0_2 a0_3 a0_4 a0_5 = some r) :
    Calls Tryz.prog 58 #[.agg #[.int .i64 a0_0, .int .i64 a0_1, .int .i64 a0_2, .int .i64 a0_3, .int .i64 a0_4, .string a0_5]] w fun e w' => e = .returned (.bool r) ∧ Below w.heap.size w w' := by
 have hu24 := Tryz.underlying24; have HB := aM_ (Below.refl w.heap.size w); have H : ((isa_IsIns.f k a0_0 a0_1 a0_2 a0_3 a0_4 a0_5).bind fun t347 => (if t347 = true then ((isa_Ends.f a0_0).bind fun t348 => (if t348 = true then (some false) else (some (a0_0 != 0)))) else (some false))) = some r := h; clear h; obtain ⟨t347, A2, H⟩ := oB_ H
 by_cases c3 : t347 = true
 ·subst c3; rw [if_pos rfl] at H; obtain ⟨t348, A4, H⟩ := oB_ H
  by_cases c5 : t348 = true
  ·subst c5; rw [if_pos rfl] at H; obtain rfl := oI_ H; go_enter Tryz.func58, Tryz.ntmps58
   go_wp2_with (first | ((with_reducible refine gate_dst (N := 1) rfl ?_); refine bX_ (N := 1) (cs := #[.int .i64 a0_0, .int .i64 a0_1, .int .i64 a0_2, .int .i64 a0_3, .int .i64 a0_4, .string a0_5]) (t := 24) ?_; intro gb346 hg w6 hbox hb; replace BK346 := aM_ (hbox); replace GW346 := aM_ (gE_ hg (bl_ HB)); replace GE346 := aM_ (gE_ hg (bl_ HB)); replace HB := aM_ (bT_ (bl_ HB) hb); clear hb hbox hg; obtain ⟨hcz7_0, hcz7_1, hcz7_2, hcz7_3, hcz7_4, hcz7_5⟩ := cl6_ BK346.out; obtain ⟨hfz7_0, hfz7_1, hfz7_2, hfz7_3, hfz7_4, hfz7_5⟩ := fz6_ BK346.out) | ((with_reducible refine gC_ (f := 59) rfl ?_); refine gL_ (some 4) Tryz.func59 #[.agg #[.int .i64 a0_0, .int .i64 a0_1, .int .i64 a0_2, .int .i64 a0_3, .int .i64 a0_4, .string a0_5]] rfl ?_; (with_reducible refine (isa_IsIns.calls k a0_0 a0_1 a0_2 a0_3 a0_4 a0_5 true _ A2.out).mono ?_); rintro e w8 ⟨rfl, hb⟩; refine ⟨_, rfl, ?_⟩; replace BK346 := aM_ (kB_ (rB_ BK346) hb); replace HB := aM_ (bT_ (bs_ HB GE346) hb); obtain ⟨hcz9_0, hcz9_1, hcz9_2, hcz9_3, hcz9_4, hcz9_5⟩ := cl6_ BK346.out; obtain ⟨hfz9_0, hfz9_1, hfz9_2, hfz9_3, hfz9_4, hfz9_5⟩ := fz6_ BK346.out) | (go_at_call 60; (with_reducible refine (isa_Ends.calls a0_0 true _ A4.out).mono ?_); rintro e w' ⟨rfl, ⟨nd, rfl⟩⟩))
   go_ret; exact ⟨eR_, bs_ HB GE346⟩
  replace c5 := eF_ c5; subst c5; rw [if_neg Bool.false_ne_true] at H; obtain rfl := oI_ H; go_enter Tryz.func58, Tryz.ntmps58
  go_wp2_with (first | ((with_reducible refine gate_dst (N := 1) rfl ?_); refine bX_ (N := 1) (cs := #[.int .i64 a0_0, .int .i64 a0_1, .int .i64 a0_2, .int .i64 a0_3, .int .i64 a0_4, .string a0_5]) (t := 24) ?_; intro gb346 hg w10 hbox hb; replace BK346 := aM_ (hbox); replace GW346 := aM_ (gE_ hg (bl_ HB)); replace GE346 := aM_ (gE_ hg (bl_ HB)); replace HB := aM_ (bT_ (bl_ HB) hb); clear hb hbox hg; obtain ⟨hcz11_0, hcz11_1, hcz11_2, hcz11_3, hcz11_4, hcz11_5⟩ := cl6_ BK346.out; obtain ⟨hfz11_0, hfz11_1, hfz11_2, hfz11_3, hfz11_4, hfz11_5⟩ := fz6_ BK346.out) | ((with_reducible refine gC_ (f := 59) rfl ?_); refine gL_ (some 4) Tryz.func59 #[.agg #[.int .i64 a0_0, .int .i64 a0_1, .int .i64 a0_2, .int .i64 a0_3, .int .i64 a0_4, .string a0_5]] rfl ?_; (with_reducible refine (isa_IsIns.calls k a0_0 a0_1 a0_2 a0_3 a0_4 a0_5 true _ A2.out).mono ?_); rintro e w12 ⟨rfl, hb⟩; refine ⟨_, rfl, ?_⟩; replace BK346 := aM_ (kB_ (rB_ BK346) hb); replace HB := aM_ (bT_ (bs_ HB GE346) hb); obtain ⟨hcz13_0, hcz13_1, hcz13_2, hcz13_3, hcz13_4, hcz13_5⟩ := cl6_ BK346.out; obtain ⟨hfz13_0, hfz13_1, hfz13_2, hfz13_3, hfz13_4, hfz13_5⟩ := fz6_ BK346.out) | (go_at_call 60; (with_reducible refine (isa_Ends.calls a0_0 false _ A4.out).mono ?_); rintro e w' ⟨rfl, ⟨nd, rfl⟩⟩))
  go_ret; exact ⟨eR_, bs_ HB GE346⟩
 replace c3 := eF_ c3; subst c3; rw [if_neg Bool.false_ne_true] at H; obtain rfl := oI_ H; go_enter Tryz.func58, Tryz.ntmps58
 go_wp2_with (first | ((with_reducible refine gate_dst (N := 1) rfl ?_); refine bX_ (N := 1) (cs := #[.int .i64 a0_0, .int .i64 a0_1, .int .i64 a0_2, .int .i64 a0_3, .int .i64 a0_4, .string a0_5]) (t := 24) ?_; intro gb346 hg w14 hbox hb; replace BK346 := aM_ (hbox); replace GW346 := aM_ (gE_ hg (bl_ HB)); replace GE346 := aM_ (gE_ hg (bl_ HB)); replace HB := aM_ (bT_ (bl_ HB) hb); clear hb hbox hg; obtain ⟨hcz15_0, hcz15_1, hcz15_2, hcz15_3, hcz15_4, hcz15_5⟩ := cl6_ BK346.out; obtain ⟨hfz15_0, hfz15_1, hfz15_2, hfz15_3, hfz15_4, hfz15_5⟩ := fz6_ BK346.out) | ((with_reducible refine gC_ (f := 59) rfl ?_); refine gL_ (some 4) Tryz.func59 #[.agg #[.int .i64 a0_0, .int .i64 a0_1, .int .i64 a0_2, .int .i64 a0_3, .int .i64 a0_4, .string a0_5]] rfl ?_; (with_reducible refine (isa_IsIns.calls k a0_0 a0_1 a0_2 a0_3 a0_4 a0_5 false _ A2.out).mono ?_); rintro e w16 ⟨rfl, hb⟩; refine ⟨_, rfl, ?_⟩; replace BK346 := aM_ (kB_ (rB_ BK346) hb); replace HB := aM_ (bT_ (bs_ HB GE346) hb)))
 go_ret; exact ⟨eR_, bs_ HB GE346⟩
def dag_May_1.f (k : Nat) (a0_0 : Int) (a0_1 : Int) (a0_2 : Int) (a0_3 : Int) (a0_4 : Int) (a0_5 : ByteArray) : Option (Bool) := (block_Plain.f k a0_0 a0_1 a0_2 a0_3 a0_4 a0_5).bind fun t350 => (some (!t350))
theorem dag_May_1.calls (k : Nat) (a0_0 : Int) (a0_1 : Int) (a0_2 : Int) (a0_3 : Int) (a0_4 : Int) (a0_5 : ByteArray) (r : Bool) (w : World) (h : dag_May_1.f k a0_0 a0_1 a0_2 a0_3 a0_4 a0_5 = some r) :
    Calls Tryz.prog 62 #[.agg #[.int .i64 a0_0, .int .i64 a0_1, .int .i64 a0_2, .int .i64 a0_3, .int .i64 a0_4, .string a0_5]] w fun e w' => e = .returned (.bool r) ∧ Below w.heap.size w w' := by
 have hu24 := Tryz.underlying24; have HB := aM_ (Below.refl w.heap.size w); have H : ((block_Plain.f k a0_0 a0_1 a0_2 a0_3 a0_4 a0_5).bind fun t350 => (some (!t350))) = some r := h; clear h; obtain ⟨t350, A2, H⟩ := oB_ H; obtain rfl := oI_ H; go_enter Tryz.func62, Tryz.ntmps62
 go_wp2_with (first | ((with_reducible refine gate_dst (N := 1) rfl ?_); refine bX_ (N := 1) (cs := #[.int .i64 a0_0, .int .i64 a0_1, .int .i64 a0_2, .int .i64 a0_3, .int .i64 a0_4, .string a0_5]) (t := 24) ?_; intro gb349 hg w3 hbox hb; replace BK349 := aM_ (hbox); replace GW349 := aM_ (gE_ hg (bl_ HB)); replace GE349 := aM_ (gE_ hg (bl_ HB)); replace HB := aM_ (bT_ (bl_ HB) hb); clear hb hbox hg; obtain ⟨hcz4_0, hcz4_1, hcz4_2, hcz4_3, hcz4_4, hcz4_5⟩ := cl6_ BK349.out; obtain ⟨hfz4_0, hfz4_1, hfz4_2, hfz4_3, hfz4_4, hfz4_5⟩ := fz6_ BK349.out) | ((with_reducible refine gC_ (f := 58) rfl ?_); refine gL_ (some 4) Tryz.func58 #[.agg #[.int .i64 a0_0, .int .i64 a0_1, .int .i64 a0_2, .int .i64 a0_3, .int .i64 a0_4, .string a0_5]] rfl ?_; (with_reducible refine (block_Plain.calls k a0_0 a0_1 a0_2 a0_3 a0_4 a0_5 t350 _ A2.out).mono ?_); rintro e w5 ⟨rfl, hb⟩; refine ⟨_, rfl, ?_⟩; replace BK349 := aM_ (kB_ (rB_ BK349) hb); replace HB := aM_ (bT_ (bs_ HB GE349) hb)))
 go_ret; exact ⟨eR_, bs_ HB GE349⟩
def aI62_88062.l0 : Nat → List (S24) → Int → Int → Option (Int)
  | 0, _, _, _ => none
  | k + 1, x0, x7, x8 => if x8 < x7 then (if 0 ≤ x8 then (if x8 < (x0.length : Int) then ((dag_May_1.f k ((J24 x0 x8).f0) ((J24 x0 x8).f1) ((J24 x0 x8).f2) ((J24 x0 x8).f3) ((J24 x0 x8).f4) ((J24 x0 x8).f5)).bind fun t352 => (if t352 = true then (some x8) else (aI62_88062.l0 k x0 x7 (wrap64 (x8 + 1))))) else (none)) else (none)) else (some (-1))
def aI62_88062.f (k : Nat) (l0 : List (S24))  : Option (Int) := aI62_88062.l0 k l0 (l0.length : Int) 0
theorem aI62_88062.calls (k : Nat) (A0 : Option Addr) (c0 : Nat) (l0 : List (S24))  (r : Int) (w : World) (hr0 : Kd.C k24 w A0 l0.length l0) (hc0 : l0.length ≤ c0) (h : aI62_88062.f k l0 = some r) :
    Calls Tryz.prog 88 #[.slice A0 l0.length c0, .func (.func 62) #[] #[]] w fun e w' => e = .returned (.int .i64 r) ∧ Below w.heap.size w w' := by
 have hu24 := Tryz.underlying24; have HR0 := aM_ hr0; have HC0 := aM_ hc0; clear hr0 hc0; have HB := aM_ (Below.refl w.heap.size w); have H : (aI62_88062.l0 k l0 (l0.length : Int) 0) = some r := h; clear h; replace H := aM_ H; go_enter Tryz.func88, Tryz.ntmps88; go_wp2
 go_loopg [8] k (fun kq v8 w' => ∃ (x8_1 : Int), v8 = .int .i64 x8_1 ∧ As_ (aI62_88062.l0 kq l0 (l0.length : Int) x8_1 = some r) ∧ As_ (kq ≤ k) ∧ As_ (Below w.heap.size w w'))
 case atStart => exact ⟨(0), eQ_, H, ⟨Nat.le_refl _⟩, ⟨bl_ HB⟩⟩
 case round =>
  clear H; obtain ⟨x8_1, rfl, HA, HK1, HB⟩ := hrel
  cases gk with
  | zero => exact absurd HA.out (by simp [aI62_88062.l0])
  | succ k1 =>
   have H := HA.out; clear HA; simp only [aI62_88062.l0] at H
   by_cases c3 : x8_1 < (l0.length : Int)
   ·rw [if_pos c3] at H; have c3b0 := dE_ c3; clear c3
    by_cases c4 : 0 ≤ x8_1
    ·rw [if_pos c4] at H; have c4b0 := dE_ c4; clear c4
     by_cases c5 : x8_1 < (l0.length : Int)
     ·rw [if_pos c5] at H; have c5b0 := dE_ c5; clear c5; obtain ⟨t352, A6, H⟩ := oB_ H
      by_cases c7 : t352 = true
      ·subst c7; rw [if_pos rfl] at H; obtain rfl := oI_ H; have p351 : 0 ≤ (x8_1 : Int) := oD_; have q351 : x8_1 < (l0.length : Int) := oD_; obtain ⟨ad351, e351, hx351_0, hx351_1, hx351_2, hx351_3, hx351_4, hx351_5⟩ := at_T24 HR0.out x8_1 p351 q351
       cases e351
       replace hx351_0 := hC_ HB hx351_0; replace hx351_1 := hC_ HB hx351_1; replace hx351_2 := hC_ HB hx351_2; replace hx351_3 := hC_ HB hx351_3; replace hx351_4 := hC_ HB hx351_4; replace hx351_5 := hC_ HB hx351_5; replace p351 := eq_true p351; replace q351 := eq_true q351
       go_wp2_with (first | (go_at_call 62; (with_reducible refine (dag_May_1.calls k1 ((J24 l0 x8_1).f0) ((J24 l0 x8_1).f1) ((J24 l0 x8_1).f2) ((J24 l0 x8_1).f3) ((J24 l0 x8_1).f4) ((J24 l0 x8_1).f5) true _ A6.out).mono ?_); rintro e w8 ⟨rfl, hb⟩; replace HB := aM_ (bT_ (bl_ HB) hb)))
       go_ret; exact ⟨eR_, bl_ HB⟩
      replace c7 := eF_ c7; subst c7; rw [if_neg Bool.false_ne_true] at H; replace H := aM_ H; have p351 : 0 ≤ (x8_1 : Int) := oD_; have q351 : x8_1 < (l0.length : Int) := oD_; obtain ⟨ad351, e351, hx351_0, hx351_1, hx351_2, hx351_3, hx351_4, hx351_5⟩ := at_T24 HR0.out x8_1 p351 q351
      cases e351
      replace hx351_0 := hC_ HB hx351_0; replace hx351_1 := hC_ HB hx351_1; replace hx351_2 := hC_ HB hx351_2; replace hx351_3 := hC_ HB hx351_3; replace hx351_4 := hC_ HB hx351_4; replace hx351_5 := hC_ HB hx351_5; replace p351 := eq_true p351; replace q351 := eq_true q351
      go_wp2_with (first | (go_at_call 62; (with_reducible refine (dag_May_1.calls k1 ((J24 l0 x8_1).f0) ((J24 l0 x8_1).f1) ((J24 l0 x8_1).f2) ((J24 l0 x8_1).f3) ((J24 l0 x8_1).f4) ((J24 l0 x8_1).f5) false _ A6.out).mono ?_); rintro e w9 ⟨rfl, hb⟩; replace HB := aM_ (bT_ (bl_ HB) hb)))
      go_roundg k1
      case measure => have := HK1.out; omega
      case rel => exact ⟨(wrap64 (x8_1 + 1)), eQ_, H, ⟨by have := HK1.out; omega⟩, ⟨bl_ HB⟩⟩
     rw [if_neg c5] at H; exact absurd H (by simp)
    rw [if_neg c4] at H; exact absurd H (by simp)
   rw [if_neg c3] at H; have c3b0 := dF_ c3; clear c3; obtain rfl := oI_ H; go_wp2; go_ret; exact ⟨eR_, bl_ HB⟩
def aI62_56062.f (k : Nat) (l0 : List (S24))  : Option (Bool) := (aI62_88062.f k l0).bind fun t353 => (some (decide (t353 ≥ 0)))
theorem aI62_56062.calls (k : Nat) (A0 : Option Addr) (c0 : Nat) (l0 : List (S24))  (r : Bool) (w : World) (hr0 : Kd.C k24 w A0 l0.length l0) (hc0 : l0.length ≤ c0) (h : aI62_56062.f k l0 = some r) :
    Calls Tryz.prog 56 #[.slice A0 l0.length c0, .func (.func 62) #[] #[]] w fun e w' => e = .returned (.bool r) ∧ Below w.heap.size w w' := by
 have HR0 := aM_ hr0; have HC0 := aM_ hc0; clear hr0 hc0; have HB := aM_ (Below.refl w.heap.size w); have H : ((aI62_88062.f k l0).bind fun t353 => (some (decide (t353 ≥ 0)))) = some r := h; clear h; obtain ⟨t353, A3, H⟩ := oB_ H; obtain rfl := oI_ H; go_enter Tryz.func56, Tryz.ntmps56
 go_wp2_with (first | ((with_reducible refine gC_ (f := 88) rfl ?_); refine gL_ (some 7) Tryz.func88 #[.slice A0 l0.length c0, .func (.func 62) #[] #[]] rfl ?_; (with_reducible refine (aI62_88062.calls k _ _ l0  t353 _ ?side1 ?side2 A3.out).mono ?_); (case side1 => exact rC_ HR0.out); (case side2 => exact HC0.out); rintro e w4 ⟨rfl, hb⟩; refine ⟨_, rfl, ?_⟩; replace HB := aM_ (bT_ (bl_ HB) hb)))
 go_ret; exact ⟨eR_, bl_ HB⟩
def dag_May.f (k : Nat) (l0 : List (S24)) : Option (Bool) := if (l0.length : Int) ≤ 200 then ((aI62_56062.f k l0).bind fun t354 => (some (!t354))) else (some false)
theorem dag_May.calls (k : Nat) (A0 : Option Addr) (c0 : Nat) (l0 : List (S24)) (r : Bool) (w : World) (hr0 : Kd.C k24 w A0 l0.length l0) (hc0 : l0.length ≤ c0) (h : dag_May.f k l0 = some r) :
    Calls Tryz.prog 33 #[.slice A0 l0.length c0] w fun e w' => e = .returned (.bool r) ∧ Below w.heap.size w w' := by
 have HR0 := aM_ hr0; have HC0 := aM_ hc0; clear hr0 hc0; have HB := aM_ (Below.refl w.heap.size w); have H : (if (l0.length : Int) ≤ 200 then ((aI62_56062.f k l0).bind fun t354 => (some (!t354))) else (some false)) = some r := h; clear h
 by_cases c2 : (l0.length : Int) ≤ 200
 ·rw [if_pos c2] at H; have c2b0 := dE_ c2; have c2b1 : decide (l0.length ≤ 200) = true := decide_eq_true (by omega); clear c2; obtain ⟨t354, A3, H⟩ := oB_ H; obtain rfl := oI_ H; go_enter Tryz.func33, Tryz.ntmps33
  go_wp2_with (first | (go_at_call 56; (with_reducible refine (aI62_56062.calls k _ _ l0  t354 _ ?side1 ?side2 A3.out).mono ?_); (case side1 => exact rC_ HR0.out); (case side2 => exact HC0.out); rintro e w4 ⟨rfl, hb⟩; replace HB := aM_ (bT_ (bl_ HB) hb)))
  go_ret; exact ⟨eR_, bl_ HB⟩
 rw [if_neg c2] at H; have c2b0 := dF_ c2; have c2b1 : decide (l0.length ≤ 200) = false := decide_eq_false (by omega); clear c2; obtain rfl := oI_ H; go_enter Tryz.func33, Tryz.ntmps33; go_wp2; go_ret; exact ⟨eR_, bl_ HB⟩
end
end Go.Proofs.YtibfkkjkahpobaaGreat.PDag
