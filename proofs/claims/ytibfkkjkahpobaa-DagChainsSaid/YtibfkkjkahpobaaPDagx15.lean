-- written by this session's changed print (wip/myprint)
import Derived.Test.YtibfkkjkahpobaaPDagx0
import Derived.Test.YtibfkkjkahpobaaPDagx3
import Derived.Test.YtibfkkjkahpobaaPDagx10
import Derived.Test.YtibfkkjkahpobaaPDagx14
namespace Go.Proofs.Ytibfkkjkahpobaa.PDag
open Go.RowKit Go.Proofs.YtibfkkjkahpobaaW.PrintWords Go.Proofs.YtibfkkjkahpobaaW.PrintLast Go.Proofs.YtibfkkjkahpobaaW.PrintMore
attribute [local go_sem] max2_int min2_int max_two min_two max_three min_three max_four min_four   -- for this text's walks alone
set_option linter.unusedVariables false
set_option linter.unusedSimpArgs false

/-! ### sledgelaw14_DagChains: function 4 -/
mutual
def sledgelaw14_DagChains.l0 : Nat → List Int → List (S24) → Int → Int → List (S24) → Int → Int → Int → Int → Int → ByteArray → List Int → Option (Bool)
  | 0, _, _, _, _, _, _, _, _, _, _, _, _ => none
  | k + 1, x3, x4, x5, x6, x295000, x295001, x295002, x295003, x295004, x295005, x295006, x295007 => if x6 < 20 then (if (x3.length : Int) = 0 then (none) else (if 0 ≤ (Int.tmod (wrap64 ((wrap64 (x6 * 3)) + (x295007.length : Int))) (x3.length : Int)) then (if (Int.tmod (wrap64 ((wrap64 (x6 * 3)) + (x295007.length : Int))) (x3.length : Int)) < (x3.length : Int) then (if x4.length < 2513169434916 then ((some (x4 ++ [(⟨rd x3 (Int.tmod (wrap64 ((wrap64 (x6 * 3)) + (x295007.length : Int))) (x3.length : Int)), wrap64 (1 + (Int.tmod x6 7)), wrap64 (1 + (Int.tmod (wrap64 (x6 + 6)) 7)), 15, 0, (⟨#[]⟩ : ByteArray)⟩ : S24)] : List (S24))).bind fun y300 => ((sledgeref3_Latency.f k (rd x3 (Int.tmod (wrap64 ((wrap64 (x6 * 3)) + (x295007.length : Int))) (x3.length : Int)))).bind fun t303 => ((dag_Heights.f k y300).bind fun bt304 => ((sledgelaw14_num.f bt304.2).bind fun t308 => (if t308 = 0 then (if (bt304.1.length : Int) = (y300.length : Int) then (if 0 < (bt304.1.length : Int) then (sledgelaw14_DagChains.j1 k x3 y300 (wrap64 (x5 + t303)) x6 ((rd bt304.1 0) != (wrap64 (x5 + t303))) x295000 x295001 x295002 x295003 x295004 x295005 x295006 x295007) else (none)) else (sledgelaw14_DagChains.j1 k x3 y300 (wrap64 (x5 + t303)) x6 true x295000 x295001 x295002 x295003 x295004 x295005 x295006 x295007)) else (sledgelaw14_DagChains.j1 k x3 y300 (wrap64 (x5 + t303)) x6 true x295000 x295001 x295002 x295003 x295004 x295005 x295006 x295007)))))) else (none)) else (none)) else (none))) else ((sledgelaw14_wakes.f k).bind fun t298 => (some t298))
def sledgelaw14_DagChains.j1 : Nat → List Int → List (S24) → Int → Int → Bool → List (S24) → Int → Int → Int → Int → Int → ByteArray → List Int → Option (Bool)
  | 0, _, _, _, _, _, _, _, _, _, _, _, _, _ => none
  | k + 1, x3, x4, x5, x6, x64, x295000, x295001, x295002, x295003, x295004, x295005, x295006, x295007 => if x64 = true then (some false) else (sledgelaw14_DagChains.l0 k x3 x4 x5 (wrap64 (x6 + 1)) x295000 x295001 x295002 x295003 x295004 x295005 x295006 x295007)
end
def sledgelaw14_DagChains.f (k : Nat) (l0_0 : List (S24)) (a0_1 : Int) (a0_2 : Int) (a0_3 : Int) (a0_4 : Int) (a0_5 : Int) (a0_6 : ByteArray) (l0_7 : List Int) : Option (Bool) := sledgelaw14_DagChains.l0 k (([1, 14, 16, 20, 18, 12, 17] : List Int)) ([] : List (S24)) 0 0 l0_0 a0_1 a0_2 a0_3 a0_4 a0_5 a0_6 l0_7
theorem sledgelaw14_DagChains.mono_l : ∀ k, (∀ y0 y1 y2 y3 y4 y5 y6 y7 y8 y9 y10 y11, LeO (sledgelaw14_DagChains.l0 k y0 y1 y2 y3 y4 y5 y6 y7 y8 y9 y10 y11) (sledgelaw14_DagChains.l0 (k + 1) y0 y1 y2 y3 y4 y5 y6 y7 y8 y9 y10 y11)) ∧ (∀ y0 y1 y2 y3 y4 y5 y6 y7 y8 y9 y10 y11 y12, LeO (sledgelaw14_DagChains.j1 k y0 y1 y2 y3 y4 y5 y6 y7 y8 y9 y10 y11 y12) (sledgelaw14_DagChains.j1 (k + 1) y0 y1 y2 y3 y4 y5 y6 y7 y8 y9 y10 y11 y12))
  | 0 => ⟨fun _ _ _ _ _ _ _ _ _ _ _ _ r h => by simp [sledgelaw14_DagChains.l0] at h, fun _ _ _ _ _ _ _ _ _ _ _ _ _ r h => by simp [sledgelaw14_DagChains.j1] at h⟩
  | k + 1 => by
    obtain ⟨ih0, ih1⟩ := sledgelaw14_DagChains.mono_l k
    refine ⟨?_, ?_⟩
    · intro y0 y1 y2 y3 y4 y5 y6 y7 y8 y9 y10 y11
      unfold sledgelaw14_DagChains.l0
      repeat' first
      | (with_reducible exact ih0 _ _ _ _ _ _ _ _ _ _ _ _)
      | (with_reducible exact ih1 _ _ _ _ _ _ _ _ _ _ _ _ _)
      | (with_reducible exact dag_Heights.mono _ _)
      | (with_reducible exact sledgelaw14_wakes.mono _)
      | (with_reducible exact sledgeref3_Latency.mono _ _)
      | (with_reducible exact LeO.refl _)
      | (with_reducible exact LeO.none _)
      | (with_reducible refine LeO.ite ?_ ?_)
      | (with_reducible refine LeO.bind ?_ (fun _ => ?_))
      | exact ih0 _ _ _ _ _ _ _ _ _ _ _ _
      | exact ih1 _ _ _ _ _ _ _ _ _ _ _ _ _
      | exact dag_Heights.mono _ _
      | exact sledgelaw14_wakes.mono _
      | exact sledgeref3_Latency.mono _ _
      | exact LeO.none _
      | refine LeO.ite ?_ ?_
      | refine LeO.bind ?_ (fun _ => ?_)
    · intro y0 y1 y2 y3 y4 y5 y6 y7 y8 y9 y10 y11 y12
      unfold sledgelaw14_DagChains.j1
      repeat' first
      | (with_reducible exact ih0 _ _ _ _ _ _ _ _ _ _ _ _)
      | (with_reducible exact ih1 _ _ _ _ _ _ _ _ _ _ _ _ _)
      | (with_reducible exact dag_Heights.mono _ _)
      | (with_reducible exact sledgelaw14_wakes.mono _)
      | (with_reducible exact sledgeref3_Latency.mono _ _)
      | (with_reducible exact LeO.refl _)
      | (with_reducible exact LeO.none _)
      | (with_reducible refine LeO.ite ?_ ?_)
      | (with_reducible refine LeO.bind ?_ (fun _ => ?_))
      | exact ih0 _ _ _ _ _ _ _ _ _ _ _ _
      | exact ih1 _ _ _ _ _ _ _ _ _ _ _ _ _
      | exact dag_Heights.mono _ _
      | exact sledgelaw14_wakes.mono _
      | exact sledgeref3_Latency.mono _ _
      | exact LeO.none _
      | refine LeO.ite ?_ ?_
      | refine LeO.bind ?_ (fun _ => ?_)
theorem sledgelaw14_DagChains.mono : ∀ a0 a1 a2 a3 a4 a5 a6 a7 k, LeO (sledgelaw14_DagChains.f k a0 a1 a2 a3 a4 a5 a6 a7) (sledgelaw14_DagChains.f (k + 1) a0 a1 a2 a3 a4 a5 a6 a7) := by
  intro a0 a1 a2 a3 a4 a5 a6 a7 k
  obtain ⟨ih0, ih1⟩ := sledgelaw14_DagChains.mono_l k
  unfold sledgelaw14_DagChains.f
  repeat' first
      | (with_reducible exact ih0 _ _ _ _ _ _ _ _ _ _ _ _)
      | (with_reducible exact ih1 _ _ _ _ _ _ _ _ _ _ _ _ _)
      | (with_reducible exact dag_Heights.mono _ _)
      | (with_reducible exact sledgelaw14_wakes.mono _)
      | (with_reducible exact sledgeref3_Latency.mono _ _)
      | (with_reducible exact LeO.refl _)
      | (with_reducible exact LeO.none _)
      | (with_reducible refine LeO.ite ?_ ?_)
      | (with_reducible refine LeO.bind ?_ (fun _ => ?_))
      | exact ih0 _ _ _ _ _ _ _ _ _ _ _ _
      | exact ih1 _ _ _ _ _ _ _ _ _ _ _ _ _
      | exact dag_Heights.mono _ _
      | exact sledgelaw14_wakes.mono _
      | exact sledgeref3_Latency.mono _ _
      | exact LeO.none _
      | refine LeO.ite ?_ ?_
      | refine LeO.bind ?_ (fun _ => ?_)
set_option maxHeartbeats 8000000 in
set_option maxRecDepth 100000 in
theorem sledgelaw14_DagChains.calls (k : Nat) (A0_0 : Option Addr) (c0_0 : Nat) (l0_0 : List (S24)) (a0_1 : Int) (a0_2 : Int) (a0_3 : Int) (a0_4 : Int) (a0_5 : Int) (a0_6 : ByteArray) (A0_7 : Option Addr) (c0_7 : Nat) (l0_7 : List Int) (r : Bool) (w : World) (hr0_0 : Kd.C k24 w A0_0 l0_0.length l0_0) (hc0_0 : l0_0.length ≤ c0_0) (hr0_7 : Kd.C (Kd.int .i64) w A0_7 l0_7.length l0_7) (hc0_7 : l0_7.length ≤ c0_7) (h : sledgelaw14_DagChains.f k l0_0 a0_1 a0_2 a0_3 a0_4 a0_5 a0_6 l0_7 = some r) :
    Calls Try.prog 4 #[.agg #[.slice A0_0 l0_0.length c0_0, .int .i64 a0_1, .int .i64 a0_2, .int .i64 a0_3, .int .i64 a0_4, .int .i64 a0_5, .string a0_6, .slice A0_7 l0_7.length c0_7]] w fun e w' => e = .returned (.bool r) ∧ Below w.heap.size w w' := by
  have hu27 := Try.underlying27
  have hu24 := Try.underlying24
  have HR0_0 := Aside0.mk hr0_0
  have HC0_0 := Aside0.mk hc0_0
  clear hr0_0 hc0_0
  have HR0_7 := Aside0.mk hr0_7
  have HC0_7 := Aside0.mk hc0_7
  clear hr0_7 hc0_7
  have HB := Aside0.mk (Below.refl w.heap.size w)
  have H : (sledgelaw14_DagChains.l0 k (([1, 14, 16, 20, 18, 12, 17] : List Int)) ([] : List (S24)) 0 0 l0_0 a0_1 a0_2 a0_3 a0_4 a0_5 a0_6 l0_7) = some r := h
  clear h
  obtain ⟨y295, hy295⟩ : ∃ y_ : List Int, y_ = (([1, 14, 16, 20, 18, 12, 17] : List Int)) := ⟨_, rfl⟩
  replace H : (sledgelaw14_DagChains.l0 k y295 ([] : List (S24)) 0 0 l0_0 a0_1 a0_2 a0_3 a0_4 a0_5 a0_6 l0_7) = some r := by first | (rw [hy295]; with_reducible exact H) | (have H2_ := (Option.bind_some _ _).symm.trans H; rw [hy295]; with_reducible exact H2_) | (have H2_ := (Option.bind_some _ _).symm.trans H; with_reducible exact H2_) | with_reducible exact H | (rw [hy295]; exact H) | exact H
  have Ny295 := Aside0.mk hy295
  clear hy295
  have H' := Aside0.mk H
  clear H
  go_enter Try.func4, Try.ntmps4
  go_wp2_with (first | ((with_reducible refine gate_dst (N := 1) rfl ?_); refine box_event ?hg (N := 1) ?hd (cs := #[.slice A0_0 l0_0.length c0_0, .int .i64 a0_1, .int .i64 a0_2, .int .i64 a0_3, .int .i64 a0_4, .int .i64 a0_5, .string a0_6, .slice A0_7 l0_7.length c0_7]) (t := 27) ?hr ?_; (case hd => rfl); (case hg => rfl); (case hr => first | (go_simp; done) | (go_simp; rfl)); intro gb294 hg w2 hbox hb; have n0_ := Aside0.mk (below_step (by repeat (first | (with_reducible first | exact HB.out | apply below_alloc | apply pw_below_drewN | apply below_drew1) | exact HB.out)) hb); have n1_ := Aside0.mk (hbox); have n2_ := Aside0.mk ((by rw [hg]; exact (below_size (by repeat (first | (with_reducible first | exact HB.out | apply below_alloc | apply pw_below_drewN | apply below_drew1) | exact HB.out))) : w.heap.size ≤ gb294)); have n3_ := Aside0.mk ((by rw [hg]; exact (below_size (by repeat (first | (with_reducible first | exact HB.out | apply below_alloc | apply pw_below_drewN | apply below_drew1) | exact HB.out))) : w.heap.size ≤ gb294)); clear HB; have HB := n0_; have BK294 := n1_; have GW294 := n2_; have GE294 := n3_; clear n0_ n1_ n2_ n3_; clear hb hbox hg) | ((with_reducible refine gate_dst (N := 10) rfl ?_); refine Kd.R_lit (Kd.int .i64) _ 3 ?hg (N := 10) ?hd (xs := ([1, 14, 16, 20, 18, 12, 17] : List Int)) (inner := [.int .i64 1, .int .i64 14, .int .i64 16, .int .i64 20, .int .i64 18, .int .i64 12, .int .i64 17]) (ok := fun _ => True) (okp := fun _ => True) ?hr ?hp (fun _ hk => hk) trivial (Below.refl _ _) (Nat.le_refl _) (by simp) ?_; (case hd => rfl); (case hg => rfl); (case hr => first | (go_simp; done) | (go_simp; rfl)); (case hp => exact (Reps.one (show Kd.M (Kd.int .i64) _ _ _ 1 [.int .i64 1] from rfl) (Reps.one (show Kd.M (Kd.int .i64) _ _ _ 14 [.int .i64 14] from rfl) (Reps.one (show Kd.M (Kd.int .i64) _ _ _ 16 [.int .i64 16] from rfl) (Reps.one (show Kd.M (Kd.int .i64) _ _ _ 20 [.int .i64 20] from rfl) (Reps.one (show Kd.M (Kd.int .i64) _ _ _ 18 [.int .i64 18] from rfl) (Reps.one (show Kd.M (Kd.int .i64) _ _ _ 12 [.int .i64 12] from rfl) (Reps.one (show Kd.M (Kd.int .i64) _ _ _ 17 [.int .i64 17] from rfl) (Reps.none _ _))))))))); intro v296 w3 ho4 hb hg_ hnew_; clear hg_ hnew_; (first | rw [← Ny295.out] at ho4 | (simp only [Int.reduceToNat] at ho4; rw [← Ny295.out] at ho4)); have n0_ := Aside0.mk (Kd.R_lower ho4 (below_size (by repeat (first | (with_reducible first | exact HB.out | apply below_alloc | apply pw_below_drewN | apply below_drew1 | refine below_set ?_ GE294.out) | exact HB.out)))); have n1_ := Aside0.mk (blk_below (g := gb294) (o := .cells #[.slice A0_0 l0_0.length c0_0, .int .i64 a0_1, .int .i64 a0_2, .int .i64 a0_3, .int .i64 a0_4, .int .i64 a0_5, .string a0_6, .slice A0_7 l0_7.length c0_7] 27 (0, 0)) (by (with_reducible repeat (first | refine blk_drewN ?_ _ | refine blk_drew ?_ | refine blk_alloc ?_ _)); exact BK294.out) hb); have n2_ := Aside0.mk (below_step (by repeat (first | (with_reducible first | exact HB.out | apply below_alloc | apply pw_below_drewN | apply below_drew1 | refine below_set ?_ GE294.out) | exact HB.out)) hb); clear BK294; clear HB; have HO297 := n0_; have BK294 := n1_; have HB := n2_; clear n0_ n1_ n2_; clear hb ho4))
  go_loopg [4, 5, 6] k (fun kq v4 v5 v6 w' => ∃ (x4_1 : List (S24)) (x5_1 : Int) (x6_1 : Int), v5 = .int .i64 x5_1 ∧ v6 = .int .i64 x6_1 ∧ Aside0 (sledgelaw14_DagChains.l0 kq y295 x4_1 x5_1 x6_1 l0_0 a0_1 a0_2 a0_3 a0_4 a0_5 a0_6 l0_7 = some r) ∧ Aside0 (kq ≤ k) ∧ Aside0 (Kd.R (Kd.int .i64) 3 w' w.heap.size (fun _ => True) v296 y295) ∧ Aside0 (Kd.R k24 24 w' w.heap.size (fun _ => True) v4 x4_1) ∧ Aside0 (w'.heap[gb294]? = some (.cells #[(.slice A0_0 l0_0.length c0_0), .int .i64 a0_1, .int .i64 a0_2, .int .i64 a0_3, .int .i64 a0_4, .int .i64 a0_5, .string a0_6, (.slice A0_7 l0_7.length c0_7)] 27 (0, 0))) ∧ Aside0 (Below w.heap.size w w'))
  case atStart => exact ⟨(([] : List (S24))), (0), (0), (by first | rfl | (simp; done) | (simp [*]; done) | (simp [wrap64]; done) | (congr 1; rw [Bool.eq_iff_iff]; simp; done)), (by first | rfl | (simp; done) | (simp [*]; done) | (simp [wrap64]; done) | (congr 1; rw [Bool.eq_iff_iff]; simp; done)), H', ⟨Nat.le_refl _⟩, ⟨by (with_reducible repeat (first | apply Kd.R_alloc | apply Kd.R_drewN | apply Kd.R_drew)); exact HO297.out⟩, ⟨by first | exact Kd.R_nil _ _ _ _ _ | exact Kd.N_nil _ _ _ _ _ | exact Kd.V_nil _ _ _ _ _ | exact Kd.Q_nil _ _ _ _ _ | exact Kd.S_nil _ _ _ _ _⟩, ⟨by (with_reducible repeat (first | refine blk_drewN ?_ _ | refine blk_drew ?_ | refine blk_alloc ?_ _)); exact BK294.out⟩, ⟨by repeat (first | (with_reducible first | exact HB.out | apply below_alloc | apply pw_below_drewN | apply below_drew1 | refine below_set ?_ GE294.out) | exact HB.out)⟩⟩
  case round =>
    clear H'
    try clear p2
    try clear c4
    obtain ⟨x4_1, x5_1, x6_1, rfl, rfl, HA, HK1, HO_3, HO_4, BK294, HB⟩ := hrel
    cases gk with
    | zero => exact absurd HA.out (by simp [sledgelaw14_DagChains.l0])
    | succ k1 =>
      have H := HA.out
      clear HA
      simp only [sledgelaw14_DagChains.l0] at H
      by_cases c5 : x6_1 < 20
      · rw [if_pos c5] at H
        have c5b0 : decide (x6_1 < 20) = true := decide_eq_true c5
        clear c5
        by_cases c6 : (y295.length : Int) = 0
        · rw [if_pos c6] at H
          exact absurd H (by simp)
        · rw [if_neg c6] at H
          have c6b0 : ((y295.length : Int) == 0) = false := beq_eq_false_iff_ne.mpr c6
          have c6b1 : ((y295.length : Int) != 0) = true := bne_iff_ne.mpr c6
          have c6b2 : ¬ (y295 = []) := fun h_ => c6 (by rw [h_]; rfl)
          obtain ⟨ji7, hji7⟩ : ∃ j_ : Int, (Int.tmod (wrap64 ((wrap64 (x6_1 * 3)) + (l0_7.length : Int))) (y295.length : Int)) = j_ := ⟨_, rfl⟩
          replace H : (if 0 ≤ (ji7) then (if (ji7) < (y295.length : Int) then (if x4_1.length < 2513169434916 then ((some (x4_1 ++ [(⟨rd y295 (ji7), wrap64 (1 + (Int.tmod x6_1 7)), wrap64 (1 + (Int.tmod (wrap64 (x6_1 + 6)) 7)), 15, 0, (⟨#[]⟩ : ByteArray)⟩ : S24)] : List (S24))).bind fun y300 => ((sledgeref3_Latency.f k1 (rd y295 (ji7))).bind fun t303 => ((dag_Heights.f k1 y300).bind fun bt304 => ((sledgelaw14_num.f bt304.2).bind fun t308 => (if t308 = 0 then (if (bt304.1.length : Int) = (y300.length : Int) then (if 0 < (bt304.1.length : Int) then (sledgelaw14_DagChains.j1 k1 y295 y300 (wrap64 (x5_1 + t303)) x6_1 ((rd bt304.1 0) != (wrap64 (x5_1 + t303))) l0_0 a0_1 a0_2 a0_3 a0_4 a0_5 a0_6 l0_7) else (none)) else (sledgelaw14_DagChains.j1 k1 y295 y300 (wrap64 (x5_1 + t303)) x6_1 true l0_0 a0_1 a0_2 a0_3 a0_4 a0_5 a0_6 l0_7)) else (sledgelaw14_DagChains.j1 k1 y295 y300 (wrap64 (x5_1 + t303)) x6_1 true l0_0 a0_1 a0_2 a0_3 a0_4 a0_5 a0_6 l0_7)))))) else (none)) else (none)) else (none)) = some r := by first | (rw [hji7] at H; exact H) | (simp only [hji7] at H ⊢; exact H)
          by_cases c8 : 0 ≤ (ji7)
          · rw [if_pos c8] at H
            have c8b0 : decide (0 ≤ (ji7)) = true := decide_eq_true c8
            clear c8
            by_cases c9 : (ji7) < (y295.length : Int)
            · rw [if_pos c9] at H
              have c9b0 : decide ((ji7) < (y295.length : Int)) = true := decide_eq_true c9
              clear c9
              by_cases c10 : x4_1.length < 2513169434916
              · rw [if_pos c10] at H
                have LMc10 := Aside0.mk c10
                clear c10
                obtain ⟨y300, hy300⟩ : ∃ y_ : List (S24), y_ = (x4_1 ++ [(⟨rd y295 (ji7), wrap64 (1 + (Int.tmod x6_1 7)), wrap64 (1 + (Int.tmod (wrap64 (x6_1 + 6)) 7)), 15, 0, (⟨#[]⟩ : ByteArray)⟩ : S24)]) := ⟨_, rfl⟩
                replace H : ((sledgeref3_Latency.f k1 (rd y295 (ji7))).bind fun t303 => ((dag_Heights.f k1 y300).bind fun bt304 => ((sledgelaw14_num.f bt304.2).bind fun t308 => (if t308 = 0 then (if (bt304.1.length : Int) = (y300.length : Int) then (if 0 < (bt304.1.length : Int) then (sledgelaw14_DagChains.j1 k1 y295 y300 (wrap64 (x5_1 + t303)) x6_1 ((rd bt304.1 0) != (wrap64 (x5_1 + t303))) l0_0 a0_1 a0_2 a0_3 a0_4 a0_5 a0_6 l0_7) else (none)) else (sledgelaw14_DagChains.j1 k1 y295 y300 (wrap64 (x5_1 + t303)) x6_1 true l0_0 a0_1 a0_2 a0_3 a0_4 a0_5 a0_6 l0_7)) else (sledgelaw14_DagChains.j1 k1 y295 y300 (wrap64 (x5_1 + t303)) x6_1 true l0_0 a0_1 a0_2 a0_3 a0_4 a0_5 a0_6 l0_7))))) = some r := by first | (rw [hy300]; with_reducible exact H) | (have H2_ := (Option.bind_some _ _).symm.trans H; rw [hy300]; with_reducible exact H2_) | (have H2_ := (Option.bind_some _ _).symm.trans H; with_reducible exact H2_) | with_reducible exact H | (rw [hy300]; exact H) | exact H
                have Ny300 := Aside0.mk hy300
                clear hy300
                replace H := Option.bind_eq_some_iff.mp H
                obtain ⟨t303, A110, H⟩ := H
                replace H : ((dag_Heights.f k1 y300).bind fun bt304 => ((sledgelaw14_num.f bt304.2).bind fun t308 => (if t308 = 0 then (if (bt304.1.length : Int) = (y300.length : Int) then (if 0 < (bt304.1.length : Int) then (sledgelaw14_DagChains.j1 k1 y295 y300 (wrap64 (x5_1 + t303)) x6_1 ((rd bt304.1 0) != (wrap64 (x5_1 + t303))) l0_0 a0_1 a0_2 a0_3 a0_4 a0_5 a0_6 l0_7) else (none)) else (sledgelaw14_DagChains.j1 k1 y295 y300 (wrap64 (x5_1 + t303)) x6_1 true l0_0 a0_1 a0_2 a0_3 a0_4 a0_5 a0_6 l0_7)) else (sledgelaw14_DagChains.j1 k1 y295 y300 (wrap64 (x5_1 + t303)) x6_1 true l0_0 a0_1 a0_2 a0_3 a0_4 a0_5 a0_6 l0_7)))) = some r := H
                have A11 := Aside0.mk A110
                clear A110
                replace H := Option.bind_eq_some_iff.mp H
                obtain ⟨⟨t304, t305⟩, A120, H⟩ := H
                replace H : ((sledgelaw14_num.f t305).bind fun t308 => (if t308 = 0 then (if (t304.length : Int) = (y300.length : Int) then (if 0 < (t304.length : Int) then (sledgelaw14_DagChains.j1 k1 y295 y300 (wrap64 (x5_1 + t303)) x6_1 ((rd t304 0) != (wrap64 (x5_1 + t303))) l0_0 a0_1 a0_2 a0_3 a0_4 a0_5 a0_6 l0_7) else (none)) else (sledgelaw14_DagChains.j1 k1 y295 y300 (wrap64 (x5_1 + t303)) x6_1 true l0_0 a0_1 a0_2 a0_3 a0_4 a0_5 a0_6 l0_7)) else (sledgelaw14_DagChains.j1 k1 y295 y300 (wrap64 (x5_1 + t303)) x6_1 true l0_0 a0_1 a0_2 a0_3 a0_4 a0_5 a0_6 l0_7))) = some r := H
                have A12 := Aside0.mk A120
                clear A120
                have HC13 := Aside0.mk H
                clear H
                have hcz14_0 : wr.cell? ⟨gb294, 0, none⟩ = some (.slice A0_0 l0_0.length c0_0) := (blk_cell BK294.out 0).trans rfl
                have hcz14_1 : wr.cell? ⟨gb294, 1, none⟩ = some (.int .i64 a0_1) := (blk_cell BK294.out 1).trans rfl
                have hcz14_2 : wr.cell? ⟨gb294, 2, none⟩ = some (.int .i64 a0_2) := (blk_cell BK294.out 2).trans rfl
                have hcz14_3 : wr.cell? ⟨gb294, 3, none⟩ = some (.int .i64 a0_3) := (blk_cell BK294.out 3).trans rfl
                have hcz14_4 : wr.cell? ⟨gb294, 4, none⟩ = some (.int .i64 a0_4) := (blk_cell BK294.out 4).trans rfl
                have hcz14_5 : wr.cell? ⟨gb294, 5, none⟩ = some (.int .i64 a0_5) := (blk_cell BK294.out 5).trans rfl
                have hcz14_6 : wr.cell? ⟨gb294, 6, none⟩ = some (.string a0_6) := (blk_cell BK294.out 6).trans rfl
                have hcz14_7 : wr.cell? ⟨gb294, 7, none⟩ = some (.slice A0_7 l0_7.length c0_7) := (blk_cell BK294.out 7).trans rfl
                have hfz14_0 := blk_frozen BK294.out 0
                have hfz14_1 := blk_frozen BK294.out 1
                have hfz14_2 := blk_frozen BK294.out 2
                have hfz14_3 := blk_frozen BK294.out 3
                have hfz14_4 := blk_frozen BK294.out 4
                have hfz14_5 := blk_frozen BK294.out 5
                have hfz14_6 := blk_frozen BK294.out 6
                have hfz14_7 := blk_frozen BK294.out 7
                obtain ⟨Ao15, co15, eo15⟩ := Kd.R_slice HO_3.out
                subst eo15
                have p299 : 0 ≤ ((ji7) : Int) := of_decide_eq_true (by first | (with_reducible assumption) | assumption)
                have q299 : (ji7) < (y295.length : Int) := of_decide_eq_true (by first | (with_reducible assumption) | assumption)
                obtain ⟨ad299, e299, hx299_0⟩ := Kd.at_int (Kd.R_reads' HO_3.out).2.2 (ji7) p299 q299
                cases e299
                replace p299 := eq_true p299
                replace q299 := eq_true q299
                go_upto_region 11 with (first | ((with_reducible refine gate_builtin (b := .append) (xs := #[.tmp 27, .tmp 37]) rfl ?_); at_builtin; refine Kd.R_append k24 (w0 := w) w.heap.size rfl (.tmp 27) (.tmp 37) 22 24 (.agg #[(.int .i64 0), (.int .i64 0), (.int .i64 0), (.int .i64 0), (.int .i64 0), (.string ⟨#[]⟩)]) 56 rfl Try.underlying22 info24 rfl (by decide) (by omega) u4 x4_1 (⟨rd y295 (ji7), wrap64 (1 + (Int.tmod x6_1 7)), wrap64 (1 + (Int.tmod (wrap64 (x6_1 + 6)) 7)), 15, 0, (⟨#[]⟩ : ByteArray)⟩ : S24) [.int .i64 (rd y295 (ji7)), .int .i64 (wrap64 (1 + (Int.tmod x6_1 7))), .int .i64 (wrap64 (1 + (Int.tmod (wrap64 (x6_1 + 6)) 7))), .int .i64 15, .int .i64 0, .string (⟨#[]⟩ : ByteArray)] (fun _ => True) (fun _ => False) rfl rfl ?aP (fun _ hk => hk.elim) ?aF ?aO ?aB ?aS ?aL ?_; (case aP => exact k24_mkM _ _ _ (⟨rd y295 (ji7), wrap64 (1 + (Int.tmod x6_1 7)), wrap64 (1 + (Int.tmod (wrap64 (x6_1 + 6)) 7)), 15, 0, (⟨#[]⟩ : ByteArray)⟩ : S24)); (case aB => exact (by repeat (first | (with_reducible first | exact HB.out | apply below_alloc | apply pw_below_drewN | apply below_drew1 | refine below_set ?_ GE294.out) | exact HB.out))); (case aF => exact (fun _ _ => trivial)); (case aO => exact (by (with_reducible repeat (first | apply Kd.R_alloc | apply Kd.R_drewN | apply Kd.R_drew)); exact HO_4.out)); (case aS => exact (below_size (by repeat (first | (with_reducible first | exact HB.out | apply below_alloc | apply pw_below_drewN | apply below_drew1 | refine below_set ?_ GE294.out) | exact HB.out)))); (case aL => have := LMc10.out; omega); intro v301 w16 ho hb hg hat; rw [← Ny300.out] at ho; have n0_ := Aside0.mk (Kd.R_over' (by (with_reducible repeat (first | apply Kd.R_alloc | apply Kd.R_drewN | apply Kd.R_drew)); exact HO_3.out) (Kd.R_typed (by (with_reducible repeat (first | apply Kd.R_alloc | apply Kd.R_drewN | apply Kd.R_drew)); exact HO_4.out)) (by decide) hg); have n1_ := Aside0.mk (blk_grown (g := gb294) (o := .cells #[.slice A0_0 l0_0.length c0_0, .int .i64 a0_1, .int .i64 a0_2, .int .i64 a0_3, .int .i64 a0_4, .int .i64 a0_5, .string a0_6, .slice A0_7 l0_7.length c0_7] 27 (0, 0)) (by (with_reducible repeat (first | refine blk_drewN ?_ _ | refine blk_drew ?_ | refine blk_alloc ?_ _)); exact BK294.out) hg (Kd.R_ne HO_4.out BK294.out (by decide))); have n2_ := Aside0.mk (hb); have n3_ := Aside0.mk (ho); clear HO_3; clear BK294; clear HB; clear HO_4; have HO_3 := n0_; have BK294 := n1_; have HB := n2_; have HO302 := n3_; clear n0_ n1_ n2_ n3_; clear ho hb hg hat) | ((with_reducible refine gate_callee (f := 27) rfl ?_); refine goesL_ (some 41) rfl rfl Try.func27 (by kernel_rfl) rfl #[.int .i64 (rd y295 (ji7))] rfl (by (try simp only [List.map_toArray, List.map_cons, List.map_nil]); first | done | (simp only [hji7]; rfl) | rfl | (simp only [List.length_drop, List.length_take]; rfl)) ?_; (with_reducible refine (sledgeref3_Latency.calls k1 (rd y295 (ji7)) t303 _ A11.out).mono ?_); rintro e w' ⟨rfl, ⟨nd, rfl⟩⟩; refine ⟨_, rfl, ?_⟩; obtain ⟨Ao17, co17, eo17⟩ := Kd.R_slice HO302.out; subst eo17) | ((with_reducible refine gate_callee (f := 20) rfl ?_); refine goesL_ (some 45) rfl rfl Try.func20 (by kernel_rfl) rfl #[.slice Ao17 y300.length co17] rfl (by (try simp only [List.map_toArray, List.map_cons, List.map_nil]); first | done | rfl | (simp only [List.length_drop, List.length_take]; rfl)) ?_; (with_reducible refine (dag_Heights.calls k1 _ _ y300 t304 t305 _ ?side1 ?side2 A12.out).mono ?_); (case side1 => repeat (first | exact (Kd.R_reads' HO302.out).2.2 | (with_reducible refine Kd.C_alloc ?_ _) | (with_reducible refine Kd.C_drewN ?_ _) | (with_reducible refine Kd.C_drew ?_))); (case side2 => exact (Kd.R_reads' HO302.out).2.1); rintro e w18 ⟨v306, rfl, ho0, hb⟩; refine ⟨_, rfl, ?_⟩; have n0_ := Aside0.mk (Kd.R_elder' (by (with_reducible repeat (first | apply Kd.R_alloc | apply Kd.R_drewN | apply Kd.R_drew)); exact HO_3.out) (Kd.R_base ho0) hb); have n1_ := Aside0.mk (Kd.R_below (by (with_reducible repeat (first | apply Kd.R_alloc | apply Kd.R_drewN | apply Kd.R_drew)); exact HO302.out) hb); have n2_ := Aside0.mk (Kd.R_lower (Kd.R_new' ho0 (Kd.R_lt (by (with_reducible repeat (first | apply Kd.R_alloc | apply Kd.R_drewN | apply Kd.R_drew)); exact HO_3.out))) (below_size (by repeat (first | (with_reducible first | exact HB.out | apply below_alloc | apply pw_below_drewN | apply below_drew1 | refine below_set ?_ GE294.out) | exact HB.out)))); have n3_ := Aside0.mk (blk_below (g := gb294) (o := .cells #[.slice A0_0 l0_0.length c0_0, .int .i64 a0_1, .int .i64 a0_2, .int .i64 a0_3, .int .i64 a0_4, .int .i64 a0_5, .string a0_6, .slice A0_7 l0_7.length c0_7] 27 (0, 0)) (by (with_reducible repeat (first | refine blk_drewN ?_ _ | refine blk_drew ?_ | refine blk_alloc ?_ _)); exact BK294.out) hb); have n4_ := Aside0.mk (below_step (by repeat (first | (with_reducible first | exact HB.out | apply below_alloc | apply pw_below_drewN | apply below_drew1 | refine below_set ?_ GE294.out) | exact HB.out)) hb); clear HO_3; clear HO302; clear BK294; clear HB; have HO_3 := n0_; have HO302 := n1_; have HO307 := n2_; have BK294 := n3_; have HB := n4_; clear n0_ n1_ n2_ n3_ n4_; (try clear hb); (try clear hb2); (try clear hk); (try clear hi); (try clear ho0)))
                (try simp only [Act.put, List.setIfInBounds_toArray, List.set_cons_zero, List.set_cons_succ])
                go_cut [64] (fun v64 wc => ∃ (kq : Nat) (x64_12 : Bool), v64 = .bool x64_12 ∧ Aside0 (sledgelaw14_DagChains.j1 kq y295 y300 (wrap64 (x5_1 + t303)) x6_1 x64_12 l0_0 a0_1 a0_2 a0_3 a0_4 a0_5 a0_6 l0_7 = some r) ∧ Aside0 (kq ≤ k1) ∧ Aside0 (Kd.R (Kd.int .i64) 3 wc w.heap.size (fun _ => True) (.slice (some ad299) y295.length co15) y295) ∧ Aside0 (Kd.R k24 24 wc w.heap.size (fun _ => True) (.slice Ao17 y300.length co17) y300) ∧ Aside0 (wc.heap[gb294]? = some (.cells #[(.slice A0_0 l0_0.length c0_0), .int .i64 a0_1, .int .i64 a0_2, .int .i64 a0_3, .int .i64 a0_4, .int .i64 a0_5, .string a0_6, (.slice A0_7 l0_7.length c0_7)] 27 (0, 0))) ∧ Aside0 (Below w.heap.size w wc))
                case first =>
                  have H := HC13.out
                  clear HC13
                  replace H := Option.bind_eq_some_iff.mp H
                  obtain ⟨t308, A190, H⟩ := H
                  replace H : (if t308 = 0 then (if (t304.length : Int) = (y300.length : Int) then (if 0 < (t304.length : Int) then (sledgelaw14_DagChains.j1 k1 y295 y300 (wrap64 (x5_1 + t303)) x6_1 ((rd t304 0) != (wrap64 (x5_1 + t303))) l0_0 a0_1 a0_2 a0_3 a0_4 a0_5 a0_6 l0_7) else (none)) else (sledgelaw14_DagChains.j1 k1 y295 y300 (wrap64 (x5_1 + t303)) x6_1 true l0_0 a0_1 a0_2 a0_3 a0_4 a0_5 a0_6 l0_7)) else (sledgelaw14_DagChains.j1 k1 y295 y300 (wrap64 (x5_1 + t303)) x6_1 true l0_0 a0_1 a0_2 a0_3 a0_4 a0_5 a0_6 l0_7)) = some r := H
                  have A19 := Aside0.mk A190
                  clear A190
                  by_cases c20 : t308 = 0
                  · rw [if_pos c20] at H
                    have c20b0 : (t308 == 0) = true := beq_iff_eq.mpr c20
                    have c20b1 : (t308 != 0) = false := bne_eq_false_iff_eq.mpr c20
                    clear c20
                    (first | rw [c20b0] | (simp only [i64_w, i32_w]; rw [c20b0]) | skip)
                    by_cases c21 : (t304.length : Int) = (y300.length : Int)
                    · rw [if_pos c21] at H
                      have c21b0 : ((t304.length : Int) == (y300.length : Int)) = true := beq_iff_eq.mpr c21
                      have c21b1 : ((t304.length : Int) != (y300.length : Int)) = false := bne_eq_false_iff_eq.mpr c21
                      have c21b2 : (t304.length == y300.length) = true := by first | simpa using c21 | (simp at c21 ⊢; omega)
                      clear c21
                      by_cases c22 : 0 < (t304.length : Int)
                      · rw [if_pos c22] at H
                        have c22b0 : decide (0 < (t304.length : Int)) = true := decide_eq_true c22
                        have c22b1 : decide (0 < t304.length) = true := decide_eq_true (by omega)
                        clear c22
                        have H' := Aside0.mk H
                        clear H
                        go_wp2_with (first | ((with_reducible refine gate_callee (f := 21) rfl ?_); refine goesL_ (some 49) rfl rfl Try.func21 (by kernel_rfl) rfl #[.int .i64 t305] rfl (by (try simp only [List.map_toArray, List.map_cons, List.map_nil]); first | done | rfl | (simp only [List.length_drop, List.length_take]; rfl)) ?_; (with_reducible refine (sledgelaw14_num.calls t305 t308 _ A19.out).mono ?_); rintro e w' ⟨rfl, ⟨nd, rfl⟩⟩; refine ⟨_, rfl, ?_⟩; obtain ⟨Ao23, co23, eo23⟩ := Kd.R_slice HO307.out; subst eo23; have p309 : 0 ≤ (0 : Int) := (by omega); have q309 : 0 < (t304.length : Int) := of_decide_eq_true (by first | (with_reducible assumption) | assumption); obtain ⟨ad309, e309, hx309_0⟩ := Kd.at_int (Kd.R_reads' HO307.out).2.2 0 p309 q309; cases e309; have qi309 : (0 < t304.length) = True := eq_true (by omega); (try rw [show ((0 : Int)).toNat = 0 from rfl] at hx309_0); (try rw [Addr.add_zero'] at hx309_0); replace p309 := eq_true p309; replace q309 := eq_true q309))
                        go_meet
                        case rel => exact ⟨_, (((rd t304 0) != (wrap64 (x5_1 + t303)))), (by first | rfl | (simp; done) | (simp [*]; done) | (simp [wrap64]; done) | (congr 1; rw [Bool.eq_iff_iff]; simp; done)), H', ⟨by have := HK1.out; first | omega | exact Nat.le_refl _⟩, ⟨by (with_reducible repeat (first | apply Kd.R_alloc | apply Kd.R_drewN | apply Kd.R_drew)); exact Kd.R_mono HO_3.out (fun _ hk => trivial)⟩, ⟨by (with_reducible repeat (first | apply Kd.R_alloc | apply Kd.R_drewN | apply Kd.R_drew)); exact HO302.out⟩, ⟨by (with_reducible repeat (first | refine blk_drewN ?_ _ | refine blk_drew ?_ | refine blk_alloc ?_ _)); exact BK294.out⟩, ⟨by repeat (first | (with_reducible first | exact HB.out | apply below_alloc | apply pw_below_drewN | apply below_drew1 | refine below_set ?_ GE294.out) | exact HB.out)⟩⟩
                      · rw [if_neg c22] at H
                        exact absurd H (by simp)
                    · rw [if_neg c21] at H
                      have c21b0 : ((t304.length : Int) == (y300.length : Int)) = false := beq_eq_false_iff_ne.mpr c21
                      have c21b1 : ((t304.length : Int) != (y300.length : Int)) = true := bne_iff_ne.mpr c21
                      have c21b2 : (t304.length == y300.length) = false := by first | simpa using c21 | (simp at c21 ⊢; omega)
                      have H' := Aside0.mk H
                      clear H
                      go_wp2_with (first | ((with_reducible refine gate_callee (f := 21) rfl ?_); refine goesL_ (some 49) rfl rfl Try.func21 (by kernel_rfl) rfl #[.int .i64 t305] rfl (by (try simp only [List.map_toArray, List.map_cons, List.map_nil]); first | done | rfl | (simp only [List.length_drop, List.length_take]; rfl)) ?_; (with_reducible refine (sledgelaw14_num.calls t305 t308 _ A19.out).mono ?_); rintro e w' ⟨rfl, ⟨nd, rfl⟩⟩; refine ⟨_, rfl, ?_⟩; obtain ⟨Ao24, co24, eo24⟩ := Kd.R_slice HO307.out; subst eo24))
                      go_meet
                      case rel => exact ⟨_, (true), (by first | rfl | (simp; done) | (simp [*]; done) | (simp [wrap64]; done) | (congr 1; rw [Bool.eq_iff_iff]; simp; done)), H', ⟨by have := HK1.out; first | omega | exact Nat.le_refl _⟩, ⟨by (with_reducible repeat (first | apply Kd.R_alloc | apply Kd.R_drewN | apply Kd.R_drew)); exact Kd.R_mono HO_3.out (fun _ hk => trivial)⟩, ⟨by (with_reducible repeat (first | apply Kd.R_alloc | apply Kd.R_drewN | apply Kd.R_drew)); exact HO302.out⟩, ⟨by (with_reducible repeat (first | refine blk_drewN ?_ _ | refine blk_drew ?_ | refine blk_alloc ?_ _)); exact BK294.out⟩, ⟨by repeat (first | (with_reducible first | exact HB.out | apply below_alloc | apply pw_below_drewN | apply below_drew1 | refine below_set ?_ GE294.out) | exact HB.out)⟩⟩
                  · rw [if_neg c20] at H
                    have c20b0 : (t308 == 0) = false := beq_eq_false_iff_ne.mpr c20
                    have c20b1 : (t308 != 0) = true := bne_iff_ne.mpr c20
                    (first | rw [c20b0] | (simp only [i64_w, i32_w]; rw [c20b0]) | skip)
                    have H' := Aside0.mk H
                    clear H
                    go_wp2_with (first | ((with_reducible refine gate_callee (f := 21) rfl ?_); refine goesL_ (some 49) rfl rfl Try.func21 (by kernel_rfl) rfl #[.int .i64 t305] rfl (by (try simp only [List.map_toArray, List.map_cons, List.map_nil]); first | done | rfl | (simp only [List.length_drop, List.length_take]; rfl)) ?_; (with_reducible refine (sledgelaw14_num.calls t305 t308 _ A19.out).mono ?_); rintro e w' ⟨rfl, ⟨nd, rfl⟩⟩; refine ⟨_, rfl, ?_⟩))
                    go_meet
                    case rel => exact ⟨_, (true), (by first | rfl | (simp; done) | (simp [*]; done) | (simp [wrap64]; done) | (congr 1; rw [Bool.eq_iff_iff]; simp; done)), H', ⟨by have := HK1.out; first | omega | exact Nat.le_refl _⟩, ⟨by (with_reducible repeat (first | apply Kd.R_alloc | apply Kd.R_drewN | apply Kd.R_drew)); exact Kd.R_mono HO_3.out (fun _ hk => trivial)⟩, ⟨by (with_reducible repeat (first | apply Kd.R_alloc | apply Kd.R_drewN | apply Kd.R_drew)); exact HO302.out⟩, ⟨by (with_reducible repeat (first | refine blk_drewN ?_ _ | refine blk_drew ?_ | refine blk_alloc ?_ _)); exact BK294.out⟩, ⟨by repeat (first | (with_reducible first | exact HB.out | apply below_alloc | apply pw_below_drewN | apply below_drew1 | refine below_set ?_ GE294.out) | exact HB.out)⟩⟩
                case rest =>
                  clear HC13
                  try clear c1
                  try clear c2
                  try clear p2
                  try clear q2
                  try clear hx2
                  try clear p3
                  try clear q3
                  try clear hx3
                  try clear qi3
                  try clear c4
                  try clear c5
                  try clear c5b0
                  try clear c6
                  try clear c6b0
                  try clear c6b1
                  try clear c6b2
                  try clear p6
                  try clear c8
                  try clear c8b0
                  try clear c9
                  try clear c9b0
                  try clear c10
                  try clear c20
                  try clear c20b0
                  try clear c20b1
                  try clear c21
                  try clear c21b0
                  try clear c21b1
                  try clear c21b2
                  try clear c22
                  try clear c22b0
                  try clear c22b1
                  try clear hcz14_0
                  try clear hcz14_1
                  try clear hcz14_2
                  try clear hcz14_3
                  try clear hcz14_4
                  try clear hcz14_5
                  try clear hcz14_6
                  try clear hcz14_7
                  try clear hfz14_0
                  try clear hfz14_1
                  try clear hfz14_2
                  try clear hfz14_3
                  try clear hfz14_4
                  try clear hfz14_5
                  try clear hfz14_6
                  try clear hfz14_7
                  try clear hx299_0
                  try clear hx309_0
                  try clear p2
                  try clear p299
                  try clear p309
                  try clear q299
                  try clear q309
                  obtain ⟨kq, x64_12, rfl, HA, HJ12, HO_3, HO_4, BK294, HB⟩ := hcut
                  cases kq with
                  | zero => exact absurd HA.out (by simp [sledgelaw14_DagChains.j1])
                  | succ kj12 =>
                    have H := HA.out
                    clear HA
                    simp only [sledgelaw14_DagChains.j1] at H
                    by_cases c25 : x64_12 = true
                    · subst c25
                      have H1 : (some false) = some r := by rw [if_pos rfl] at H; exact H
                      clear H
                      have H := H1
                      clear H1
                      obtain rfl := Option.some.inj H
                      go_wp2
                      go_ret
                      exact ⟨by first | rfl | (simp [errW_none, errW_some] <;> rfl) | (simp only [← hji7]; first | rfl | (simp [errW_none, errW_some] <;> rfl)) | (simp [*, errW_none, errW_some] <;> rfl), by repeat (first | (with_reducible first | exact HB.out | apply below_alloc | apply pw_below_drewN | apply below_drew1 | refine below_set ?_ GE294.out) | exact HB.out)⟩
                    · replace c25 := Bool.eq_false_iff.mpr c25
                      subst c25
                      have H1 : (sledgelaw14_DagChains.l0 kj12 y295 y300 (wrap64 (x5_1 + t303)) (wrap64 (x6_1 + 1)) l0_0 a0_1 a0_2 a0_3 a0_4 a0_5 a0_6 l0_7) = some r := by rw [if_neg (show ¬ (false = true) by decide)] at H; exact H
                      clear H
                      have H := H1
                      clear H1
                      have H' := Aside0.mk H
                      clear H
                      go_wp2
                      go_roundg kj12
                      case measure => have := HK1.out; have := HJ12.out; omega
                      case rel => exact ⟨(y300), ((wrap64 (x5_1 + t303))), (wrap64 (x6_1 + 1)), (by first | rfl | (simp; done) | (simp [*]; done) | (simp [wrap64]; done) | (congr 1; rw [Bool.eq_iff_iff]; simp; done)), (by first | rfl | (simp; done) | (simp [*]; done) | (simp [wrap64]; done) | (congr 1; rw [Bool.eq_iff_iff]; simp; done)), H', ⟨by have := HK1.out; have := HJ12.out; omega⟩, ⟨by (with_reducible repeat (first | apply Kd.R_alloc | apply Kd.R_drewN | apply Kd.R_drew)); exact HO_3.out⟩, ⟨by (with_reducible repeat (first | apply Kd.R_alloc | apply Kd.R_drewN | apply Kd.R_drew)); exact HO_4.out⟩, ⟨by (with_reducible repeat (first | refine blk_drewN ?_ _ | refine blk_drew ?_ | refine blk_alloc ?_ _)); exact BK294.out⟩, ⟨by repeat (first | (with_reducible first | exact HB.out | apply below_alloc | apply pw_below_drewN | apply below_drew1 | refine below_set ?_ GE294.out) | exact HB.out)⟩⟩
              · rw [if_neg c10] at H
                exact absurd H (by simp)
            · rw [if_neg c9] at H
              exact absurd H (by simp)
          · rw [if_neg c8] at H
            exact absurd H (by simp)
      · rw [if_neg c5] at H
        have c5b0 : decide (x6_1 < 20) = false := decide_eq_false c5
        clear c5
        replace H := Option.bind_eq_some_iff.mp H
        obtain ⟨t298, A260, H⟩ := H
        replace H : (some t298) = some r := H
        have A26 := Aside0.mk A260
        clear A260
        obtain rfl := Option.some.inj H
        go_wp2_with (first | ((with_reducible refine gate_callee (f := 26) rfl ?_); refine goesL_ (some 65) rfl rfl Try.func26 (by kernel_rfl) rfl #[] rfl (by (try simp only [List.map_toArray, List.map_cons, List.map_nil]); first | done | rfl | (simp only [List.length_drop, List.length_take]; rfl)) ?_; (with_reducible refine (sledgelaw14_wakes.calls k1  t298 _ A26.out).mono ?_); rintro e w27 ⟨rfl, hb⟩; refine ⟨_, rfl, ?_⟩; have n0_ := Aside0.mk (Kd.R_below (by (with_reducible repeat (first | apply Kd.R_alloc | apply Kd.R_drewN | apply Kd.R_drew)); exact HO_3.out) hb); have n1_ := Aside0.mk (Kd.R_below (by (with_reducible repeat (first | apply Kd.R_alloc | apply Kd.R_drewN | apply Kd.R_drew)); exact HO_4.out) hb); have n2_ := Aside0.mk (blk_below (g := gb294) (o := .cells #[.slice A0_0 l0_0.length c0_0, .int .i64 a0_1, .int .i64 a0_2, .int .i64 a0_3, .int .i64 a0_4, .int .i64 a0_5, .string a0_6, .slice A0_7 l0_7.length c0_7] 27 (0, 0)) (by (with_reducible repeat (first | refine blk_drewN ?_ _ | refine blk_drew ?_ | refine blk_alloc ?_ _)); exact BK294.out) hb); have n3_ := Aside0.mk (below_step (by repeat (first | (with_reducible first | exact HB.out | apply below_alloc | apply pw_below_drewN | apply below_drew1 | refine below_set ?_ GE294.out) | exact HB.out)) hb); clear HO_3; clear HO_4; clear BK294; clear HB; have HO_3 := n0_; have HO_4 := n1_; have BK294 := n2_; have HB := n3_; clear n0_ n1_ n2_ n3_; (try clear hb); (try clear hb2); (try clear hk); (try clear hi)))
        go_ret
        exact ⟨by first | rfl | (simp [errW_none, errW_some] <;> rfl) | (simp [*, errW_none, errW_some] <;> rfl), by repeat (first | (with_reducible first | exact HB.out | apply below_alloc | apply pw_below_drewN | apply below_drew1 | refine below_set ?_ GE294.out) | exact HB.out)⟩

/-! ### sledgelaw0_CodesWeight: function 59 -/
def sledgelaw0_CodesWeight.l0 : Nat → List (S24) → Int → Int → Option (Int)
  | 0, _, _, _ => none
  | k + 1, x0, x3, x4 => if x4 < (x0.length : Int) then (if x3 < 1048576 then (if 0 ≤ x4 then (sledgelaw0_CodesWeight.l0 k x0 (wrap64 (x3 + (wrap64 ((((rd_T24 x0 x4).f5).size : Int) / 8)))) (wrap64 (x4 + 1))) else (none)) else (some x3)) else (some x3)
def sledgelaw0_CodesWeight.f (k : Nat) (l0 : List (S24)) : Option (Int) := sledgelaw0_CodesWeight.l0 k l0 (l0.length : Int) 0
theorem sledgelaw0_CodesWeight.mono_l : ∀ k, (∀ y0 y1 y2, LeO (sledgelaw0_CodesWeight.l0 k y0 y1 y2) (sledgelaw0_CodesWeight.l0 (k + 1) y0 y1 y2))
  | 0 => fun _ _ _ r h => by simp [sledgelaw0_CodesWeight.l0] at h
  | k + 1 => by
    have ih0 := sledgelaw0_CodesWeight.mono_l k
    · intro y0 y1 y2
      unfold sledgelaw0_CodesWeight.l0
      repeat' first
      | (with_reducible exact ih0 _ _ _)
      | (with_reducible exact LeO.refl _)
      | (with_reducible exact LeO.none _)
      | (with_reducible refine LeO.ite ?_ ?_)
      | (with_reducible refine LeO.bind ?_ (fun _ => ?_))
      | exact ih0 _ _ _
      | exact LeO.none _
      | refine LeO.ite ?_ ?_
      | refine LeO.bind ?_ (fun _ => ?_)
theorem sledgelaw0_CodesWeight.mono : ∀ a0 k, LeO (sledgelaw0_CodesWeight.f k a0) (sledgelaw0_CodesWeight.f (k + 1) a0) := by
  intro a0 k
  have ih0 := sledgelaw0_CodesWeight.mono_l k
  unfold sledgelaw0_CodesWeight.f
  repeat' first
      | (with_reducible exact ih0 _ _ _)
      | (with_reducible exact LeO.refl _)
      | (with_reducible exact LeO.none _)
      | (with_reducible refine LeO.ite ?_ ?_)
      | (with_reducible refine LeO.bind ?_ (fun _ => ?_))
      | exact ih0 _ _ _
      | exact LeO.none _
      | refine LeO.ite ?_ ?_
      | refine LeO.bind ?_ (fun _ => ?_)
set_option maxHeartbeats 8000000 in
set_option maxRecDepth 100000 in
theorem sledgelaw0_CodesWeight.calls (k : Nat) (A0 : Option Addr) (c0 : Nat) (l0 : List (S24)) (r : Int) (w : World) (hr0 : Kd.C k24 w A0 l0.length l0) (hc0 : l0.length ≤ c0) (h : sledgelaw0_CodesWeight.f k l0 = some r) :
    Calls Try.prog 59 #[.slice A0 l0.length c0] w fun e w' => e = .returned (.int .i64 r) ∧ Drawn0 w w' := by
  have HR0 := Aside0.mk hr0
  have HC0 := Aside0.mk hc0
  clear hr0 hc0
  have H : (sledgelaw0_CodesWeight.l0 k l0 (l0.length : Int) 0) = some r := h
  clear h
  have H' := Aside0.mk H
  clear H
  go_enter Try.func59, Try.ntmps59
  go_wp2
  go_loopg [3, 4] k (fun kq v3 v4 w' => ∃ (x3_1 : Int) (x4_1 : Int), v3 = .int .i64 x3_1 ∧ v4 = .int .i64 x4_1 ∧ Aside0 (sledgelaw0_CodesWeight.l0 kq l0 x3_1 x4_1 = some r) ∧ Aside0 (kq ≤ k) ∧ Drawn0 w w')
  case atStart => exact ⟨((l0.length : Int)), (0), (by first | rfl | (simp; done) | (simp [*]; done) | (simp [wrap64]; done) | (congr 1; rw [Bool.eq_iff_iff]; simp; done)), (by first | rfl | (simp; done) | (simp [*]; done) | (simp [wrap64]; done) | (congr 1; rw [Bool.eq_iff_iff]; simp; done)), H', ⟨Nat.le_refl _⟩, by repeat (first | exact Drawn0.refl _ | apply Drawn0.step)⟩
  case round =>
    clear H'
    obtain ⟨x3_1, x4_1, rfl, rfl, HA, HK1, ⟨m1, rfl⟩⟩ := hrel
    cases gk with
    | zero => exact absurd HA.out (by simp [sledgelaw0_CodesWeight.l0])
    | succ k1 =>
      have H := HA.out
      clear HA
      simp only [sledgelaw0_CodesWeight.l0] at H
      by_cases c2 : x4_1 < (l0.length : Int)
      · rw [if_pos c2] at H
        have c2b0 : decide (x4_1 < (l0.length : Int)) = true := decide_eq_true c2
        clear c2
        by_cases c3 : x3_1 < 1048576
        · rw [if_pos c3] at H
          have c3b0 : decide (x3_1 < 1048576) = true := decide_eq_true c3
          clear c3
          by_cases c4 : 0 ≤ x4_1
          · rw [if_pos c4] at H
            have c4b0 : decide (0 ≤ x4_1) = true := decide_eq_true c4
            clear c4
            have H' := Aside0.mk H
            clear H
            have p310 : 0 ≤ (x4_1 : Int) := of_decide_eq_true (by first | (with_reducible assumption) | assumption)
            have q310 : x4_1 < (l0.length : Int) := of_decide_eq_true (by first | (with_reducible assumption) | assumption)
            obtain ⟨ad310, e310, hx310_0, hx310_1, hx310_2, hx310_3, hx310_4, hx310_5⟩ := at_T24 HR0.out x4_1 p310 q310
            cases e310
            replace p310 := eq_true p310
            replace q310 := eq_true q310
            go_wp2
            go_roundg k1
            case measure => have := HK1.out; omega
            case rel => exact ⟨(wrap64 (x3_1 + (wrap64 ((((rd_T24 l0 x4_1).f5).size : Int) / 8)))), (wrap64 (x4_1 + 1)), (by first | rfl | (simp; done) | (simp [*]; done) | (simp [wrap64]; done) | (congr 1; rw [Bool.eq_iff_iff]; simp; done)), (by first | rfl | (simp; done) | (simp [*]; done) | (simp [wrap64]; done) | (congr 1; rw [Bool.eq_iff_iff]; simp; done)), H', ⟨by have := HK1.out; omega⟩, by repeat (first | exact Drawn0.refl _ | apply Drawn0.step)⟩
          · rw [if_neg c4] at H
            exact absurd H (by simp)
        · rw [if_neg c3] at H
          have c3b0 : decide (x3_1 < 1048576) = false := decide_eq_false c3
          clear c3
          obtain rfl := Option.some.inj H
          go_wp2
          go_ret
          exact ⟨by first | rfl | (simp; done) | (simp [*]; done) | (simp [wrap64]; done) | (congr 1; rw [Bool.eq_iff_iff]; simp; done), by repeat (first | exact Drawn0.refl _ | apply Drawn0.step)⟩
      · rw [if_neg c2] at H
        have c2b0 : decide (x4_1 < (l0.length : Int)) = false := decide_eq_false c2
        clear c2
        obtain rfl := Option.some.inj H
        go_wp2
        go_ret
        exact ⟨by first | rfl | (simp; done) | (simp [*]; done) | (simp [wrap64]; done) | (congr 1; rw [Bool.eq_iff_iff]; simp; done), by repeat (first | exact Drawn0.refl _ | apply Drawn0.step)⟩

/-! ### sledgelaw14_Heavy: function 28 -/
def sledgelaw14_Heavy.f (k : Nat) (l0_0 : List (S24)) (a0_1 : Int) (a0_2 : Int) (a0_3 : Int) (a0_4 : Int) (a0_5 : Int) (a0_6 : ByteArray) (l0_7 : List Int) : Option (Bool) := (sledgelaw0_CodesWeight.f k l0_0).bind fun t312 => (some (decide ((wrap64 (t312 + (l0_7.length : Int))) > 300)))
theorem sledgelaw14_Heavy.mono : ∀ a0 a1 a2 a3 a4 a5 a6 a7 k, LeO (sledgelaw14_Heavy.f k a0 a1 a2 a3 a4 a5 a6 a7) (sledgelaw14_Heavy.f (k + 1) a0 a1 a2 a3 a4 a5 a6 a7) := by
  intro a0 a1 a2 a3 a4 a5 a6 a7 k
  unfold sledgelaw14_Heavy.f
  repeat' first
      | (with_reducible exact sledgelaw0_CodesWeight.mono _ _)
      | (with_reducible exact LeO.refl _)
      | (with_reducible exact LeO.none _)
      | (with_reducible refine LeO.ite ?_ ?_)
      | (with_reducible refine LeO.bind ?_ (fun _ => ?_))
      | exact sledgelaw0_CodesWeight.mono _ _
      | exact LeO.none _
      | refine LeO.ite ?_ ?_
      | refine LeO.bind ?_ (fun _ => ?_)
set_option maxHeartbeats 8000000 in
set_option maxRecDepth 100000 in
theorem sledgelaw14_Heavy.calls (k : Nat) (A0_0 : Option Addr) (c0_0 : Nat) (l0_0 : List (S24)) (a0_1 : Int) (a0_2 : Int) (a0_3 : Int) (a0_4 : Int) (a0_5 : Int) (a0_6 : ByteArray) (A0_7 : Option Addr) (c0_7 : Nat) (l0_7 : List Int) (r : Bool) (w : World) (hr0_0 : Kd.C k24 w A0_0 l0_0.length l0_0) (hc0_0 : l0_0.length ≤ c0_0) (hr0_7 : Kd.C (Kd.int .i64) w A0_7 l0_7.length l0_7) (hc0_7 : l0_7.length ≤ c0_7) (h : sledgelaw14_Heavy.f k l0_0 a0_1 a0_2 a0_3 a0_4 a0_5 a0_6 l0_7 = some r) :
    Calls Try.prog 28 #[.agg #[.slice A0_0 l0_0.length c0_0, .int .i64 a0_1, .int .i64 a0_2, .int .i64 a0_3, .int .i64 a0_4, .int .i64 a0_5, .string a0_6, .slice A0_7 l0_7.length c0_7]] w fun e w' => e = .returned (.bool r) ∧ Below w.heap.size w w' := by
  have hu27 := Try.underlying27
  have HR0_0 := Aside0.mk hr0_0
  have HC0_0 := Aside0.mk hc0_0
  clear hr0_0 hc0_0
  have HR0_7 := Aside0.mk hr0_7
  have HC0_7 := Aside0.mk hc0_7
  clear hr0_7 hc0_7
  have HB := Aside0.mk (Below.refl w.heap.size w)
  have H : ((sledgelaw0_CodesWeight.f k l0_0).bind fun t312 => (some (decide ((wrap64 (t312 + (l0_7.length : Int))) > 300)))) = some r := h
  clear h
  replace H := Option.bind_eq_some_iff.mp H
  obtain ⟨t312, A20, H⟩ := H
  replace H : (some (decide ((wrap64 (t312 + (l0_7.length : Int))) > 300))) = some r := H
  have A2 := Aside0.mk A20
  clear A20
  obtain rfl := Option.some.inj H
  go_enter Try.func28, Try.ntmps28
  go_wp2_with (first | ((with_reducible refine gate_dst (N := 1) rfl ?_); refine box_event ?hg (N := 1) ?hd (cs := #[.slice A0_0 l0_0.length c0_0, .int .i64 a0_1, .int .i64 a0_2, .int .i64 a0_3, .int .i64 a0_4, .int .i64 a0_5, .string a0_6, .slice A0_7 l0_7.length c0_7]) (t := 27) ?hr ?_; (case hd => rfl); (case hg => rfl); (case hr => first | (go_simp; done) | (go_simp; rfl)); intro gb311 hg w3 hbox hb; have n0_ := Aside0.mk (below_step (by repeat (first | (with_reducible first | exact HB.out | apply below_alloc | apply pw_below_drewN | apply below_drew1) | exact HB.out)) hb); have n1_ := Aside0.mk (hbox); have n2_ := Aside0.mk ((by rw [hg]; exact (below_size (by repeat (first | (with_reducible first | exact HB.out | apply below_alloc | apply pw_below_drewN | apply below_drew1) | exact HB.out))) : w.heap.size ≤ gb311)); have n3_ := Aside0.mk ((by rw [hg]; exact (below_size (by repeat (first | (with_reducible first | exact HB.out | apply below_alloc | apply pw_below_drewN | apply below_drew1) | exact HB.out))) : w.heap.size ≤ gb311)); clear HB; have HB := n0_; have BK311 := n1_; have GW311 := n2_; have GE311 := n3_; clear n0_ n1_ n2_ n3_; clear hb hbox hg; have hcz4_0 : w3.cell? ⟨gb311, 0, none⟩ = some (.slice A0_0 l0_0.length c0_0) := (blk_cell BK311.out 0).trans rfl; have hcz4_1 : w3.cell? ⟨gb311, 1, none⟩ = some (.int .i64 a0_1) := (blk_cell BK311.out 1).trans rfl; have hcz4_2 : w3.cell? ⟨gb311, 2, none⟩ = some (.int .i64 a0_2) := (blk_cell BK311.out 2).trans rfl; have hcz4_3 : w3.cell? ⟨gb311, 3, none⟩ = some (.int .i64 a0_3) := (blk_cell BK311.out 3).trans rfl; have hcz4_4 : w3.cell? ⟨gb311, 4, none⟩ = some (.int .i64 a0_4) := (blk_cell BK311.out 4).trans rfl; have hcz4_5 : w3.cell? ⟨gb311, 5, none⟩ = some (.int .i64 a0_5) := (blk_cell BK311.out 5).trans rfl; have hcz4_6 : w3.cell? ⟨gb311, 6, none⟩ = some (.string a0_6) := (blk_cell BK311.out 6).trans rfl; have hcz4_7 : w3.cell? ⟨gb311, 7, none⟩ = some (.slice A0_7 l0_7.length c0_7) := (blk_cell BK311.out 7).trans rfl; have hfz4_0 := blk_frozen BK311.out 0; have hfz4_1 := blk_frozen BK311.out 1; have hfz4_2 := blk_frozen BK311.out 2; have hfz4_3 := blk_frozen BK311.out 3; have hfz4_4 := blk_frozen BK311.out 4; have hfz4_5 := blk_frozen BK311.out 5; have hfz4_6 := blk_frozen BK311.out 6; have hfz4_7 := blk_frozen BK311.out 7) | (go_at_call 59; (with_reducible refine (sledgelaw0_CodesWeight.calls k _ _ l0_0 t312 _ ?side1 ?side2 A2.out).mono ?_); (case side1 => repeat (first | exact (Kd.C_below HR0_0.out HB.out) | (with_reducible refine Kd.C_alloc ?_ _) | (with_reducible refine Kd.C_drewN ?_ _) | (with_reducible refine Kd.C_drew ?_))); (case side2 => exact HC0_0.out); rintro e w' ⟨rfl, ⟨nd, rfl⟩⟩; (try first | exact ⟨rfl, _, World.drewN_drewN _ _ _⟩ | exact ⟨rfl, _, Eq.trans (World.drewN_drewN _ _ _) (congrArg (World.drewN _) (Nat.add_assoc _ _ _))⟩)))
  repeat (go_quiet (first | ((with_reducible refine gate_dst (N := 1) rfl ?_); refine box_event ?hg (N := 1) ?hd (cs := #[.slice A0_0 l0_0.length c0_0, .int .i64 a0_1, .int .i64 a0_2, .int .i64 a0_3, .int .i64 a0_4, .int .i64 a0_5, .string a0_6, .slice A0_7 l0_7.length c0_7]) (t := 27) ?hr ?_; (case hd => rfl); (case hg => rfl); (case hr => first | (go_simp; done) | (go_simp; rfl)); intro gb311 hg w3 hbox hb; have n0_ := Aside0.mk (below_step (by repeat (first | (with_reducible first | exact HB.out | apply below_alloc | apply pw_below_drewN | apply below_drew1) | exact HB.out)) hb); have n1_ := Aside0.mk (hbox); have n2_ := Aside0.mk ((by rw [hg]; exact (below_size (by repeat (first | (with_reducible first | exact HB.out | apply below_alloc | apply pw_below_drewN | apply below_drew1) | exact HB.out))) : w.heap.size ≤ gb311)); have n3_ := Aside0.mk ((by rw [hg]; exact (below_size (by repeat (first | (with_reducible first | exact HB.out | apply below_alloc | apply pw_below_drewN | apply below_drew1) | exact HB.out))) : w.heap.size ≤ gb311)); clear HB; have HB := n0_; have BK311 := n1_; have GW311 := n2_; have GE311 := n3_; clear n0_ n1_ n2_ n3_; clear hb hbox hg; have hcz4_0 : w3.cell? ⟨gb311, 0, none⟩ = some (.slice A0_0 l0_0.length c0_0) := (blk_cell BK311.out 0).trans rfl; have hcz4_1 : w3.cell? ⟨gb311, 1, none⟩ = some (.int .i64 a0_1) := (blk_cell BK311.out 1).trans rfl; have hcz4_2 : w3.cell? ⟨gb311, 2, none⟩ = some (.int .i64 a0_2) := (blk_cell BK311.out 2).trans rfl; have hcz4_3 : w3.cell? ⟨gb311, 3, none⟩ = some (.int .i64 a0_3) := (blk_cell BK311.out 3).trans rfl; have hcz4_4 : w3.cell? ⟨gb311, 4, none⟩ = some (.int .i64 a0_4) := (blk_cell BK311.out 4).trans rfl; have hcz4_5 : w3.cell? ⟨gb311, 5, none⟩ = some (.int .i64 a0_5) := (blk_cell BK311.out 5).trans rfl; have hcz4_6 : w3.cell? ⟨gb311, 6, none⟩ = some (.string a0_6) := (blk_cell BK311.out 6).trans rfl; have hcz4_7 : w3.cell? ⟨gb311, 7, none⟩ = some (.slice A0_7 l0_7.length c0_7) := (blk_cell BK311.out 7).trans rfl; have hfz4_0 := blk_frozen BK311.out 0; have hfz4_1 := blk_frozen BK311.out 1; have hfz4_2 := blk_frozen BK311.out 2; have hfz4_3 := blk_frozen BK311.out 3; have hfz4_4 := blk_frozen BK311.out 4; have hfz4_5 := blk_frozen BK311.out 5; have hfz4_6 := blk_frozen BK311.out 6; have hfz4_7 := blk_frozen BK311.out 7) | (go_at_call 59; (with_reducible refine (sledgelaw0_CodesWeight.calls k _ _ l0_0 t312 _ ?side1 ?side2 A2.out).mono ?_); (case side1 => repeat (first | exact (Kd.C_below HR0_0.out HB.out) | (with_reducible refine Kd.C_alloc ?_ _) | (with_reducible refine Kd.C_drewN ?_ _) | (with_reducible refine Kd.C_drew ?_))); (case side2 => exact HC0_0.out); rintro e w' ⟨rfl, ⟨nd, rfl⟩⟩; (try first | exact ⟨rfl, _, World.drewN_drewN _ _ _⟩ | exact ⟨rfl, _, Eq.trans (World.drewN_drewN _ _ _) (congrArg (World.drewN _) (Nat.add_assoc _ _ _))⟩))); try go_wp2_with (first | ((with_reducible refine gate_dst (N := 1) rfl ?_); refine box_event ?hg (N := 1) ?hd (cs := #[.slice A0_0 l0_0.length c0_0, .int .i64 a0_1, .int .i64 a0_2, .int .i64 a0_3, .int .i64 a0_4, .int .i64 a0_5, .string a0_6, .slice A0_7 l0_7.length c0_7]) (t := 27) ?hr ?_; (case hd => rfl); (case hg => rfl); (case hr => first | (go_simp; done) | (go_simp; rfl)); intro gb311 hg w3 hbox hb; have n0_ := Aside0.mk (below_step (by repeat (first | (with_reducible first | exact HB.out | apply below_alloc | apply pw_below_drewN | apply below_drew1) | exact HB.out)) hb); have n1_ := Aside0.mk (hbox); have n2_ := Aside0.mk ((by rw [hg]; exact (below_size (by repeat (first | (with_reducible first | exact HB.out | apply below_alloc | apply pw_below_drewN | apply below_drew1) | exact HB.out))) : w.heap.size ≤ gb311)); have n3_ := Aside0.mk ((by rw [hg]; exact (below_size (by repeat (first | (with_reducible first | exact HB.out | apply below_alloc | apply pw_below_drewN | apply below_drew1) | exact HB.out))) : w.heap.size ≤ gb311)); clear HB; have HB := n0_; have BK311 := n1_; have GW311 := n2_; have GE311 := n3_; clear n0_ n1_ n2_ n3_; clear hb hbox hg; have hcz4_0 : w3.cell? ⟨gb311, 0, none⟩ = some (.slice A0_0 l0_0.length c0_0) := (blk_cell BK311.out 0).trans rfl; have hcz4_1 : w3.cell? ⟨gb311, 1, none⟩ = some (.int .i64 a0_1) := (blk_cell BK311.out 1).trans rfl; have hcz4_2 : w3.cell? ⟨gb311, 2, none⟩ = some (.int .i64 a0_2) := (blk_cell BK311.out 2).trans rfl; have hcz4_3 : w3.cell? ⟨gb311, 3, none⟩ = some (.int .i64 a0_3) := (blk_cell BK311.out 3).trans rfl; have hcz4_4 : w3.cell? ⟨gb311, 4, none⟩ = some (.int .i64 a0_4) := (blk_cell BK311.out 4).trans rfl; have hcz4_5 : w3.cell? ⟨gb311, 5, none⟩ = some (.int .i64 a0_5) := (blk_cell BK311.out 5).trans rfl; have hcz4_6 : w3.cell? ⟨gb311, 6, none⟩ = some (.string a0_6) := (blk_cell BK311.out 6).trans rfl; have hcz4_7 : w3.cell? ⟨gb311, 7, none⟩ = some (.slice A0_7 l0_7.length c0_7) := (blk_cell BK311.out 7).trans rfl; have hfz4_0 := blk_frozen BK311.out 0; have hfz4_1 := blk_frozen BK311.out 1; have hfz4_2 := blk_frozen BK311.out 2; have hfz4_3 := blk_frozen BK311.out 3; have hfz4_4 := blk_frozen BK311.out 4; have hfz4_5 := blk_frozen BK311.out 5; have hfz4_6 := blk_frozen BK311.out 6; have hfz4_7 := blk_frozen BK311.out 7) | (go_at_call 59; (with_reducible refine (sledgelaw0_CodesWeight.calls k _ _ l0_0 t312 _ ?side1 ?side2 A2.out).mono ?_); (case side1 => repeat (first | exact (Kd.C_below HR0_0.out HB.out) | (with_reducible refine Kd.C_alloc ?_ _) | (with_reducible refine Kd.C_drewN ?_ _) | (with_reducible refine Kd.C_drew ?_))); (case side2 => exact HC0_0.out); rintro e w' ⟨rfl, ⟨nd, rfl⟩⟩; (try first | exact ⟨rfl, _, World.drewN_drewN _ _ _⟩ | exact ⟨rfl, _, Eq.trans (World.drewN_drewN _ _ _) (congrArg (World.drewN _) (Nat.add_assoc _ _ _))⟩))))
  go_ret
  exact ⟨by first | rfl | (simp [errW_none, errW_some] <;> rfl) | (simp [*, errW_none, errW_some] <;> rfl), by repeat (first | (with_reducible first | exact HB.out | apply below_alloc | apply pw_below_drewN | apply below_drew1 | refine below_set ?_ GE311.out) | exact HB.out)⟩

/-! ### sledgeref0_Num: function 35 -/
def sledgeref0_Num.f (a0 : Int) (a1 : Int) : Option (Bool) := if a0 ≥ 0 then (some (decide (a0 ≤ a1))) else (some false)
set_option maxHeartbeats 8000000 in
set_option maxRecDepth 100000 in
theorem sledgeref0_Num.calls (a0 : Int) (a1 : Int) (r : Bool) (w : World) (h : sledgeref0_Num.f a0 a1 = some r) :
    Calls Try.prog 35 #[.int .i64 a0, .int .i64 a1] w fun e w' => e = .returned (.bool r) ∧ Drawn0 w w' := by
  have H : (if a0 ≥ 0 then (some (decide (a0 ≤ a1))) else (some false)) = some r := h
  clear h
  by_cases c3 : a0 ≥ 0
  · rw [if_pos c3] at H
    have c3b0 : decide (0 ≤ a0) = true := decide_eq_true c3
    clear c3
    obtain rfl := Option.some.inj H
    go_enter Try.func35, Try.ntmps35
    go_wp2
    go_ret
    exact ⟨by first | rfl | (simp; done) | (simp [*]; done) | (simp [wrap64]; done) | (congr 1; rw [Bool.eq_iff_iff]; simp; done), by repeat (first | exact Drawn0.refl _ | apply Drawn0.step)⟩
  · rw [if_neg c3] at H
    have c3b0 : decide (0 ≤ a0) = false := decide_eq_false c3
    clear c3
    obtain rfl := Option.some.inj H
    go_enter Try.func35, Try.ntmps35
    go_wp2
    go_ret
    exact ⟨by first | rfl | (simp; done) | (simp [*]; done) | (simp [wrap64]; done) | (congr 1; rw [Bool.eq_iff_iff]; simp; done), by repeat (first | exact Drawn0.refl _ | apply Drawn0.step)⟩

/-! ### sledgeref3_Target: function 43 -/
def sledgeref3_Target.f (a0 : Int) : Option (Bool) := if a0 = 8 then (some true) else (some (a0 == 9))
set_option maxHeartbeats 8000000 in
set_option maxRecDepth 100000 in
theorem sledgeref3_Target.calls (a0 : Int) (r : Bool) (w : World) (h : sledgeref3_Target.f a0 = some r) :
    Calls Try.prog 43 #[.int .i64 a0] w fun e w' => e = .returned (.bool r) ∧ Drawn0 w w' := by
  have H : (if a0 = 8 then (some true) else (some (a0 == 9))) = some r := h
  clear h
  by_cases c2 : a0 = 8
  · rw [if_pos c2] at H
    have c2b0 : (a0 == 8) = true := beq_iff_eq.mpr c2
    have c2b1 : (a0 != 8) = false := bne_eq_false_iff_eq.mpr c2
    clear c2
    obtain rfl := Option.some.inj H
    go_enter Try.func43, Try.ntmps43
    go_wp2
    go_ret
    exact ⟨by first | rfl | (simp; done) | (simp [*]; done) | (simp [wrap64]; done) | (congr 1; rw [Bool.eq_iff_iff]; simp; done), by repeat (first | exact Drawn0.refl _ | apply Drawn0.step)⟩
  · rw [if_neg c2] at H
    have c2b0 : (a0 == 8) = false := beq_eq_false_iff_ne.mpr c2
    have c2b1 : (a0 != 8) = true := bne_iff_ne.mpr c2
    obtain rfl := Option.some.inj H
    go_enter Try.func43, Try.ntmps43
    go_wp2
    go_ret
    exact ⟨by first | rfl | (simp; done) | (simp [*]; done) | (simp [wrap64]; done) | (congr 1; rw [Bool.eq_iff_iff]; simp; done), by repeat (first | exact Drawn0.refl _ | apply Drawn0.step)⟩

/-! ### sledgeref3_Valid: function 66 -/
def sledgeref3_Valid.f (a0 : Int) : Option (Bool) := (sledgeref0_Between.f a0 0 33).bind fun t313 => (some t313)
set_option maxHeartbeats 8000000 in
set_option maxRecDepth 100000 in
theorem sledgeref3_Valid.calls (a0 : Int) (r : Bool) (w : World) (h : sledgeref3_Valid.f a0 = some r) :
    Calls Try.prog 66 #[.int .i64 a0] w fun e w' => e = .returned (.bool r) ∧ Drawn0 w w' := by
  have H : ((sledgeref0_Between.f a0 0 33).bind fun t313 => (some t313)) = some r := h
  clear h
  replace H := Option.bind_eq_some_iff.mp H
  obtain ⟨t313, A20, H⟩ := H
  replace H : (some t313) = some r := H
  have A2 := Aside0.mk A20
  clear A20
  obtain rfl := Option.some.inj H
  go_enter Try.func66, Try.ntmps66
  go_wp2_with (first | ((with_reducible refine gate_callee (f := 54) rfl ?_); refine goesL_ (some 4) rfl rfl Try.func54 (by kernel_rfl) rfl #[.int .i64 a0, .int .i64 0, .int .i64 33] rfl (by (try simp only [List.map_toArray, List.map_cons, List.map_nil]); first | done | rfl | (simp only [List.length_drop, List.length_take]; rfl)) ?_; (with_reducible refine (sledgeref0_Between.calls a0 0 33 t313 _ A2.out).mono ?_); rintro e w' ⟨rfl, ⟨nd, rfl⟩⟩; refine ⟨_, rfl, ?_⟩))
  go_ret
  exact ⟨by first | rfl | (simp; done) | (simp [*]; done) | (simp [wrap64]; done) | (congr 1; rw [Bool.eq_iff_iff]; simp; done), by repeat (first | exact Drawn0.refl _ | apply Drawn0.step)⟩

/-! ### sledgeref3_reg: function 67 -/
def sledgeref3_reg.f (a0 : Int) (a1 : Bool) : Option (Bool) := if a1 = true then ((sledgeref0_Num.f a0 15).bind fun t314 => (some t314)) else (some (a0 == 0))
set_option maxHeartbeats 8000000 in
set_option maxRecDepth 100000 in
theorem sledgeref3_reg.calls (a0 : Int) (a1 : Bool) (r : Bool) (w : World) (h : sledgeref3_reg.f a0 a1 = some r) :
    Calls Try.prog 67 #[.int .i64 a0, .bool a1] w fun e w' => e = .returned (.bool r) ∧ Drawn0 w w' := by
  have H : (if a1 = true then ((sledgeref0_Num.f a0 15).bind fun t314 => (some t314)) else (some (a0 == 0))) = some r := h
  clear h
  by_cases c3 : a1 = true
  · subst c3
    have H1 : ((sledgeref0_Num.f a0 15).bind fun t314 => (some t314)) = some r := by rw [if_pos rfl] at H; exact H
    clear H
    have H := H1
    clear H1
    replace H := Option.bind_eq_some_iff.mp H
    obtain ⟨t314, A40, H⟩ := H
    replace H : (some t314) = some r := H
    have A4 := Aside0.mk A40
    clear A40
    obtain rfl := Option.some.inj H
    go_enter Try.func67, Try.ntmps67
    go_wp2_with (first | ((with_reducible refine gate_callee (f := 35) rfl ?_); refine goesL_ (some 7) rfl rfl Try.func35 (by kernel_rfl) rfl #[.int .i64 a0, .int .i64 15] rfl (by (try simp only [List.map_toArray, List.map_cons, List.map_nil]); first | done | rfl | (simp only [List.length_drop, List.length_take]; rfl)) ?_; (with_reducible refine (sledgeref0_Num.calls a0 15 t314 _ A4.out).mono ?_); rintro e w' ⟨rfl, ⟨nd, rfl⟩⟩; refine ⟨_, rfl, ?_⟩))
    go_ret
    exact ⟨by first | rfl | (simp; done) | (simp [*]; done) | (simp [wrap64]; done) | (congr 1; rw [Bool.eq_iff_iff]; simp; done), by repeat (first | exact Drawn0.refl _ | apply Drawn0.step)⟩
  · replace c3 := Bool.eq_false_iff.mpr c3
    subst c3
    have H1 : (some (a0 == 0)) = some r := by rw [if_neg (show ¬ (false = true) by decide)] at H; exact H
    clear H
    have H := H1
    clear H1
    obtain rfl := Option.some.inj H
    go_enter Try.func67, Try.ntmps67
    go_wp2
    go_ret
    exact ⟨by first | rfl | (simp; done) | (simp [*]; done) | (simp [wrap64]; done) | (congr 1; rw [Bool.eq_iff_iff]; simp; done), by repeat (first | exact Drawn0.refl _ | apply Drawn0.step)⟩

end Go.Proofs.Ytibfkkjkahpobaa.PDag
