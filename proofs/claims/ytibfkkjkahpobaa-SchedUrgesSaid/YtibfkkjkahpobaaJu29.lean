import Derived.Test.YtibfkkjkahpobaaJu15
import Derived.Test.YtibfkkjkahpobaaJu17
import Derived.Test.YtibfkkjkahpobaaJu22
import Derived.Test.YtibfkkjkahpobaaJu24
import Derived.Test.YtibfkkjkahpobaaJu16
import Derived.Test.YtibfkkjkahpobaaJu25
section
-- the texts that this claim needs, out of this session's and its print's (wip/shrink.py)
namespace Go.Proofs.Ytibfkkjkahpobaa.PDag
open Go.RowKit Go.Proofs.YtibfkkjkahpobaaW.PrintWords Go.Proofs.YtibfkkjkahpobaaW.PrintLast Go.Proofs.YtibfkkjkahpobaaW.PrintMore
attribute [local go_sem] max2_int min2_int max_two min_two max_three min_three max_four min_four   -- for this text's walks alone
set_option linter.unusedVariables false
set_option linter.unusedSimpArgs false
mutual
def dag_Least.l0 : Nat → List Int → Int → List (S24) → Int → Int → Int → Int → Int → Int → Int → ByteArray → Option (Int)
  | 0, _, _, _, _, _, _, _, _, _, _, _ => none
  | k + 1, x2, x7, x15, x16, x17, x474a, x474b, x474c, x474d, x474e, x474f => if x17 < x16 then (if 0 ≤ x17 then (if x17 < (x15.length : Int) then (if x17 < (x2.length : Int) then ((dag_reads.f k x474a x474b x474c x474d x474e x474f ((q24 x15 x17).f0) ((q24 x15 x17).f1) ((q24 x15 x17).f2) ((q24 x15 x17).f3) ((q24 x15 x17).f4) ((q24 x15 x17).f5)).bind fun t477 => (if t477 = true then ((isa_Late.f k ((q24 x15 x17).f0)).bind fun t478 => (dag_Least.j1 k x2 (mx x7 (wrap64 ((rd x2 x17) + t478))) (rd x2 x17) x15 x16 x17 x474a x474b x474c x474d x474e x474f ((q24 x15 x17).f0) ((q24 x15 x17).f1) ((q24 x15 x17).f2) ((q24 x15 x17).f3) ((q24 x15 x17).f4) ((q24 x15 x17).f5))) else (dag_Least.j1 k x2 x7 (rd x2 x17) x15 x16 x17 x474a x474b x474c x474d x474e x474f ((q24 x15 x17).f0) ((q24 x15 x17).f1) ((q24 x15 x17).f2) ((q24 x15 x17).f3) ((q24 x15 x17).f4) ((q24 x15 x17).f5)))) else (none)) else (none)) else (none)) else (some x7)
def dag_Least.j1 : Nat → List Int → Int → Int → List (S24) → Int → Int → Int → Int → Int → Int → Int → ByteArray → Int → Int → Int → Int → Int → ByteArray → Option (Int)
  | 0, _, _, _, _, _, _, _, _, _, _, _, _, _, _, _, _, _, _ => none
  | k + 1, x2, x7, x10, x15, x16, x17, x474a, x474b, x474c, x474d, x474e, x474f, x476a, x476b, x476c, x476d, x476e, x476f => if x474a = 33 then (dag_Least.j2 k x2 x7 x10 x15 x16 x17 true x474a x474b x474c x474d x474e x474f x476a x476b x476c x476d x476e x476f) else ((isa_Effect.f k x474a).bind fun t479 => (if t479 = true then ((isa_Effect.f k x476a).bind fun t480 => (dag_Least.j2 k x2 x7 x10 x15 x16 x17 t480 x474a x474b x474c x474d x474e x474f x476a x476b x476c x476d x476e x476f)) else (dag_Least.j2 k x2 x7 x10 x15 x16 x17 false x474a x474b x474c x474d x474e x474f x476a x476b x476c x476d x476e x476f)))
def dag_Least.j2 : Nat → List Int → Int → Int → List (S24) → Int → Int → Bool → Int → Int → Int → Int → Int → ByteArray → Int → Int → Int → Int → Int → ByteArray → Option (Int)
  | 0, _, _, _, _, _, _, _, _, _, _, _, _, _, _, _, _, _, _, _ => none
  | k + 1, x2, x7, x10, x15, x16, x17, x48, x474a, x474b, x474c, x474d, x474e, x474f, x476a, x476b, x476c, x476d, x476e, x476f => if x48 = true then (dag_Least.j3 k x2 (mx x7 (wrap64 (x10 + 1))) x10 x15 x16 x17 x474a x474b x474c x474d x474e x474f x476a x476b x476c x476d x476e x476f) else (dag_Least.j3 k x2 x7 x10 x15 x16 x17 x474a x474b x474c x474d x474e x474f x476a x476b x476c x476d x476e x476f)
def dag_Least.j3 : Nat → List Int → Int → Int → List (S24) → Int → Int → Int → Int → Int → Int → Int → ByteArray → Int → Int → Int → Int → Int → ByteArray → Option (Int)
  | 0, _, _, _, _, _, _, _, _, _, _, _, _, _, _, _, _, _, _ => none
  | k + 1, x2, x7, x10, x15, x16, x17, x474a, x474b, x474c, x474d, x474e, x474f, x476a, x476b, x476c, x476d, x476e, x476f => if x474a = 33 then (dag_Least.l0 k x2 x7 x15 x16 (wrap64 (x17 + 1)) x474a x474b x474c x474d x474e x474f) else ((isa_Late.f k x476a).bind fun t481 => (dag_Least.l0 k x2 (mx (mx x7 (wrap64 (x10 - 2))) (wrap64 ((wrap64 ((wrap64 (x10 + t481)) - 2)) - 1))) x15 x16 (wrap64 (x17 + 1)) x474a x474b x474c x474d x474e x474f))
end
def dag_Least.f (k : Nat) (l0 : List (S24)) (a1_0 : Int) (a1_1 : Int) (a1_2 : Int) (a1_3 : Int) (a1_4 : Int) (a1_5 : ByteArray) (l2 : List Int) : Option (Int) := if a1_0 = 0 then (some 0) else (dag_Least.l0 k l2 0 l0 (l0.length : Int) 0 a1_0 a1_1 a1_2 a1_3 a1_4 a1_5)
set_option maxHeartbeats 8000000 in
set_option maxRecDepth 100000 in
theorem dag_Least.calls (k : Nat) (A0 : Option Addr) (c0 : Nat) (l0 : List (S24)) (a1_0 : Int) (a1_1 : Int) (a1_2 : Int) (a1_3 : Int) (a1_4 : Int) (a1_5 : ByteArray) (A2 : Option Addr) (c2 : Nat) (l2 : List Int) (r : Int) (w : World) (hr0 : Kd.C k24 w A0 l0.length l0) (hc0 : l0.length ≤ c0) (hr2 : Kd.C (Kd.int .i64) w A2 l2.length l2) (hc2 : l2.length ≤ c2) (h : dag_Least.f k l0 a1_0 a1_1 a1_2 a1_3 a1_4 a1_5 l2 = some r) :
    Calls Try.prog 65 #[.slice A0 l0.length c0, .agg #[.int .i64 a1_0, .int .i64 a1_1, .int .i64 a1_2, .int .i64 a1_3, .int .i64 a1_4, .string a1_5], .slice A2 l2.length c2] w fun e w' => e = .returned (.int .i64 r) ∧ Below w.heap.size w w' := by
 have hu24 := Try.underlying24
 have HR0 := As_.mk hr0
 have HC0 := As_.mk hc0
 clear hr0 hc0
 have HR2 := As_.mk hr2
 have HC2 := As_.mk hc2
 clear hr2 hc2
 have HB := As_.mk (Below.refl w.heap.size w)
 have H : (if a1_0 = 0 then (some 0) else (dag_Least.l0 k l2 0 l0 (l0.length : Int) 0 a1_0 a1_1 a1_2 a1_3 a1_4 a1_5)) = some r := h
 clear h
 by_cases c4 : a1_0 = 0
 ·rw [if_pos c4] at H
  have c4b0 : (a1_0 == 0) = true := beq_iff_eq.mpr c4
  have c4b1 : (a1_0 != 0) = false := bne_eq_false_iff_eq.mpr c4
  clear c4
  obtain rfl := Option.some.inj H
  go_enter Try.func65, Try.ntmps65
  go_wp2_with (first | ((with_reducible refine gate_dst (N := 4) rfl ?_); refine box_event ?hg (N := 4) ?hd (cs := #[.int .i64 a1_0, .int .i64 a1_1, .int .i64 a1_2, .int .i64 a1_3, .int .i64 a1_4, .string a1_5]) (t := 24) ?hr ?_; (case hd => rfl); (case hg => rfl); (case hr => first | (go_simp; done) | (go_simp; rfl)); intro gb473 hg w5 hbox hb; have n0_ := As_.mk (bT_ (by repeat (first | (with_reducible first | exact HB.out | apply bA_ | apply bN_ | apply b1_) | exact HB.out)) hb); have n1_ := As_.mk (hbox); have n2_ := As_.mk ((by rw [hg]; exact (bY_ (by repeat (first | (with_reducible first | exact HB.out | apply bA_ | apply bN_ | apply b1_) | exact HB.out))) : w.heap.size ≤ gb473)); have n3_ := As_.mk ((by rw [hg]; exact (bY_ (by repeat (first | (with_reducible first | exact HB.out | apply bA_ | apply bN_ | apply b1_) | exact HB.out))) : w.heap.size ≤ gb473)); clear HB; have HB := n0_; have BK473 := n1_; have GW473 := n2_; have GE473 := n3_; clear n0_ n1_ n2_ n3_; clear hb hbox hg; have hcz6_0 : w5.cell? ⟨gb473, 0, none⟩ = some (.int .i64 a1_0) := (bC_ BK473.out 0).trans rfl; have hcz6_1 : w5.cell? ⟨gb473, 1, none⟩ = some (.int .i64 a1_1) := (bC_ BK473.out 1).trans rfl; have hcz6_2 : w5.cell? ⟨gb473, 2, none⟩ = some (.int .i64 a1_2) := (bC_ BK473.out 2).trans rfl; have hcz6_3 : w5.cell? ⟨gb473, 3, none⟩ = some (.int .i64 a1_3) := (bC_ BK473.out 3).trans rfl; have hcz6_4 : w5.cell? ⟨gb473, 4, none⟩ = some (.int .i64 a1_4) := (bC_ BK473.out 4).trans rfl; have hcz6_5 : w5.cell? ⟨gb473, 5, none⟩ = some (.string a1_5) := (bC_ BK473.out 5).trans rfl; have hfz6_0 := bZ_ BK473.out 0; have hfz6_1 := bZ_ BK473.out 1; have hfz6_2 := bZ_ BK473.out 2; have hfz6_3 := bZ_ BK473.out 3; have hfz6_4 := bZ_ BK473.out 4; have hfz6_5 := bZ_ BK473.out 5))
  go_ret
  exact ⟨by first | rfl | (simp [eN_, eS_] <;> rfl) | (simp [*, eN_, eS_] <;> rfl), by repeat (first | (with_reducible first | exact HB.out | apply bA_ | apply bN_ | apply b1_ | refine bS_ ?_ GE473.out) | exact HB.out)⟩
 rw [if_neg c4] at H
 have c4b0 : (a1_0 == 0) = false := beq_eq_false_iff_ne.mpr c4
 have c4b1 : (a1_0 != 0) = true := bne_iff_ne.mpr c4
 have H' := As_.mk H
 clear H
 go_enter Try.func65, Try.ntmps65
 go_wp2_with (first | ((with_reducible refine gate_dst (N := 4) rfl ?_); refine box_event ?hg (N := 4) ?hd (cs := #[.int .i64 a1_0, .int .i64 a1_1, .int .i64 a1_2, .int .i64 a1_3, .int .i64 a1_4, .string a1_5]) (t := 24) ?hr ?_; (case hd => rfl); (case hg => rfl); (case hr => first | (go_simp; done) | (go_simp; rfl)); intro gb473 hg w7 hbox hb; have n0_ := As_.mk (bT_ (by repeat (first | (with_reducible first | exact HB.out | apply bA_ | apply bN_ | apply b1_) | exact HB.out)) hb); have n1_ := As_.mk (hbox); have n2_ := As_.mk ((by rw [hg]; exact (bY_ (by repeat (first | (with_reducible first | exact HB.out | apply bA_ | apply bN_ | apply b1_) | exact HB.out))) : w.heap.size ≤ gb473)); have n3_ := As_.mk ((by rw [hg]; exact (bY_ (by repeat (first | (with_reducible first | exact HB.out | apply bA_ | apply bN_ | apply b1_) | exact HB.out))) : w.heap.size ≤ gb473)); clear HB; have HB := n0_; have BK473 := n1_; have GW473 := n2_; have GE473 := n3_; clear n0_ n1_ n2_ n3_; clear hb hbox hg; have hcz8_0 : w7.cell? ⟨gb473, 0, none⟩ = some (.int .i64 a1_0) := (bC_ BK473.out 0).trans rfl; have hcz8_1 : w7.cell? ⟨gb473, 1, none⟩ = some (.int .i64 a1_1) := (bC_ BK473.out 1).trans rfl; have hcz8_2 : w7.cell? ⟨gb473, 2, none⟩ = some (.int .i64 a1_2) := (bC_ BK473.out 2).trans rfl; have hcz8_3 : w7.cell? ⟨gb473, 3, none⟩ = some (.int .i64 a1_3) := (bC_ BK473.out 3).trans rfl; have hcz8_4 : w7.cell? ⟨gb473, 4, none⟩ = some (.int .i64 a1_4) := (bC_ BK473.out 4).trans rfl; have hcz8_5 : w7.cell? ⟨gb473, 5, none⟩ = some (.string a1_5) := (bC_ BK473.out 5).trans rfl; have hfz8_0 := bZ_ BK473.out 0; have hfz8_1 := bZ_ BK473.out 1; have hfz8_2 := bZ_ BK473.out 2; have hfz8_3 := bZ_ BK473.out 3; have hfz8_4 := bZ_ BK473.out 4; have hfz8_5 := bZ_ BK473.out 5))
 go_loopg [7, 17] k (fun kq v7 v17 w' => ∃ (x7_1 : Int) (x17_1 : Int), v7 = .int .i64 x7_1 ∧ v17 = .int .i64 x17_1 ∧ As_ (dag_Least.l0 kq l2 x7_1 l0 (l0.length : Int) x17_1 a1_0 a1_1 a1_2 a1_3 a1_4 a1_5 = some r) ∧ As_ (kq ≤ k) ∧ As_ (w'.heap[gb473]? = some (.cells #[.int .i64 a1_0, .int .i64 a1_1, .int .i64 a1_2, .int .i64 a1_3, .int .i64 a1_4, .string a1_5] 24 (0, 0))) ∧ As_ (Below w.heap.size w w'))
 case atStart => exact ⟨(0), (0), (by first | rfl | (simp; done) | (simp [*]; done) | (simp [wrap64]; done) | (congr 1; rw [Bool.eq_iff_iff]; simp; done)), (by first | rfl | (simp; done) | (simp [*]; done) | (simp [wrap64]; done) | (congr 1; rw [Bool.eq_iff_iff]; simp; done)), H', ⟨Nat.le_refl _⟩, ⟨by (with_reducible repeat (first | refine kN_ ?_ _ | refine kD_ ?_ | refine kA_ ?_ _)); exact BK473.out⟩, ⟨by repeat (first | (with_reducible first | exact HB.out | apply bA_ | apply bN_ | apply b1_ | refine bS_ ?_ GE473.out) | exact HB.out)⟩⟩
 case round =>
  clear H'
  obtain ⟨x7_1, x17_1, rfl, rfl, HA, HK1, BK473, HB⟩ := hrel
  cases gk with
  | zero => exact absurd HA.out (by simp [dag_Least.l0])
  | succ k1 =>
   have H := HA.out
   clear HA
   simp only [dag_Least.l0] at H
   by_cases c9 : x17_1 < (l0.length : Int)
   ·rw [if_pos c9] at H
    have c9b0 : decide (x17_1 < (l0.length : Int)) = true := decide_eq_true c9
    clear c9
    by_cases c10 : 0 ≤ x17_1
    ·rw [if_pos c10] at H
     have c10b0 : decide (0 ≤ x17_1) = true := decide_eq_true c10
     clear c10
     by_cases c11 : x17_1 < (l0.length : Int)
     ·rw [if_pos c11] at H
      have c11b0 : decide (x17_1 < (l0.length : Int)) = true := decide_eq_true c11
      clear c11
      by_cases c12 : x17_1 < (l2.length : Int)
      ·rw [if_pos c12] at H
       have c12b0 : decide (x17_1 < (l2.length : Int)) = true := decide_eq_true c12
       clear c12
       replace H := Option.bind_eq_some_iff.mp H
       obtain ⟨t477, A130, H⟩ := H
       replace H : (if t477 = true then ((isa_Late.f k1 ((q24 l0 x17_1).f0)).bind fun t478 => (dag_Least.j1 k1 l2 (mx x7_1 (wrap64 ((rd l2 x17_1) + t478))) (rd l2 x17_1) l0 (l0.length : Int) x17_1 a1_0 a1_1 a1_2 a1_3 a1_4 a1_5 ((q24 l0 x17_1).f0) ((q24 l0 x17_1).f1) ((q24 l0 x17_1).f2) ((q24 l0 x17_1).f3) ((q24 l0 x17_1).f4) ((q24 l0 x17_1).f5))) else (dag_Least.j1 k1 l2 x7_1 (rd l2 x17_1) l0 (l0.length : Int) x17_1 a1_0 a1_1 a1_2 a1_3 a1_4 a1_5 ((q24 l0 x17_1).f0) ((q24 l0 x17_1).f1) ((q24 l0 x17_1).f2) ((q24 l0 x17_1).f3) ((q24 l0 x17_1).f4) ((q24 l0 x17_1).f5))) = some r := H
       have A13 := As_.mk A130
       clear A130
       have HC14 := As_.mk H
       clear H
       have p474 : 0 ≤ (x17_1 : Int) := of_decide_eq_true (by assumption)
       have q474 : x17_1 < (l0.length : Int) := of_decide_eq_true (by assumption)
       obtain ⟨ad474, e474, hx474_0, hx474_1, hx474_2, hx474_3, hx474_4, hx474_5⟩ := at_T24 HR0.out x17_1 p474 q474
       cases e474
       replace hx474_0 := (HB.out.cell (World.block_lt_of_cell? w _ hx474_0)).trans hx474_0
       replace hx474_1 := (HB.out.cell (World.block_lt_of_cell? w _ hx474_1)).trans hx474_1
       replace hx474_2 := (HB.out.cell (World.block_lt_of_cell? w _ hx474_2)).trans hx474_2
       replace hx474_3 := (HB.out.cell (World.block_lt_of_cell? w _ hx474_3)).trans hx474_3
       replace hx474_4 := (HB.out.cell (World.block_lt_of_cell? w _ hx474_4)).trans hx474_4
       replace hx474_5 := (HB.out.cell (World.block_lt_of_cell? w _ hx474_5)).trans hx474_5
       replace p474 := eq_true p474
       replace q474 := eq_true q474
       go_upto_if 28 with (first | ((with_reducible refine gate_dst (N := 9) rfl ?_); refine box_event ?hg (N := 9) ?hd (cs := #[.int .i64 0, .int .i64 0, .int .i64 0, .int .i64 0, .int .i64 0, .string (⟨#[]⟩ : ByteArray)]) (t := 24) ?hr ?_; (case hd => rfl); (case hg => rfl); (case hr => first | (go_simp; done) | (go_simp; rfl)); intro gb475 hg w15 hbox hb; have n0_ := As_.mk (kB_ (g := gb473) (o := .cells #[.int .i64 a1_0, .int .i64 a1_1, .int .i64 a1_2, .int .i64 a1_3, .int .i64 a1_4, .string a1_5] 24 (0, 0)) (by (with_reducible repeat (first | refine kN_ ?_ _ | refine kD_ ?_ | refine kA_ ?_ _)); exact BK473.out) hb); have n1_ := As_.mk (bT_ (by repeat (first | (with_reducible first | exact HB.out | apply bA_ | apply bN_ | apply b1_ | refine bS_ ?_ GE473.out) | exact HB.out)) hb); have n2_ := As_.mk (hbox); have n3_ := As_.mk ((by rw [hg]; exact (bY_ (by repeat (first | (with_reducible first | exact HB.out | apply bA_ | apply bN_ | apply b1_ | refine bS_ ?_ GE473.out) | exact HB.out))) : w.heap.size ≤ gb475)); have n4_ := As_.mk ((by rw [hg]; exact (bY_ (by repeat (first | (with_reducible first | exact HB.out | apply bA_ | apply bN_ | apply b1_ | refine bS_ ?_ GE473.out) | exact HB.out))) : w.heap.size ≤ gb475)); have n5_ := As_.mk ((by rw [hg]; exact Nat.ne_of_lt (blk_lt (g := gb473) (o := .cells #[.int .i64 a1_0, .int .i64 a1_1, .int .i64 a1_2, .int .i64 a1_3, .int .i64 a1_4, .string a1_5] 24 (0, 0)) (by (with_reducible repeat (first | refine kN_ ?_ _ | refine kD_ ?_ | refine kA_ ?_ _)); exact BK473.out)) : gb473 ≠ gb475)); have n6_ := As_.mk ((by rw [hg]; exact Nat.ne_of_gt (blk_lt (g := gb473) (o := .cells #[.int .i64 a1_0, .int .i64 a1_1, .int .i64 a1_2, .int .i64 a1_3, .int .i64 a1_4, .string a1_5] 24 (0, 0)) (by (with_reducible repeat (first | refine kN_ ?_ _ | refine kD_ ?_ | refine kA_ ?_ _)); exact BK473.out)) : gb475 ≠ gb473)); clear BK473; clear HB; have BK473 := n0_; have HB := n1_; have BK475 := n2_; have GW475 := n3_; have GE475 := n4_; have NB473_475 := n5_; have NB475_473 := n6_; clear n0_ n1_ n2_ n3_ n4_ n5_ n6_; clear hb hbox hg; have hnb16 := NB475_473.out; have hnc16 := NB473_475.out; have hcz17_0 : w15.cell? ⟨gb475, 0, none⟩ = some (.int .i64 0) := (bC_ BK475.out 0).trans rfl; have hcz17_1 : w15.cell? ⟨gb475, 1, none⟩ = some (.int .i64 0) := (bC_ BK475.out 1).trans rfl; have hcz17_2 : w15.cell? ⟨gb475, 2, none⟩ = some (.int .i64 0) := (bC_ BK475.out 2).trans rfl; have hcz17_3 : w15.cell? ⟨gb475, 3, none⟩ = some (.int .i64 0) := (bC_ BK475.out 3).trans rfl; have hcz17_4 : w15.cell? ⟨gb475, 4, none⟩ = some (.int .i64 0) := (bC_ BK475.out 4).trans rfl; have hcz17_5 : w15.cell? ⟨gb475, 5, none⟩ = some (.string (⟨#[]⟩ : ByteArray)) := (bC_ BK475.out 5).trans rfl; have hfz17_0 := bZ_ BK475.out 0; have hfz17_1 := bZ_ BK475.out 1; have hfz17_2 := bZ_ BK475.out 2; have hfz17_3 := bZ_ BK475.out 3; have hfz17_4 := bZ_ BK475.out 4; have hfz17_5 := bZ_ BK475.out 5; have p476 : 0 ≤ (x17_1 : Int) := of_decide_eq_true (by assumption); have q476 : x17_1 < (l2.length : Int) := of_decide_eq_true (by assumption); obtain ⟨ad476, e476, hx476_0⟩ := Kd.at_int HR2.out x17_1 p476 q476; cases e476; have hn476_0 : ad476.block ≠ gb475 := Nat.ne_of_lt (Nat.lt_of_lt_of_le (by have := World.block_lt_of_cell? _ _ hx476_0; first | rwa [add_block] at this | exact this) GW475.out); have hn476_1 : ad476.block ≠ gb475 := Nat.ne_of_lt (Nat.lt_of_lt_of_le (by have := World.block_lt_of_cell? _ _ hx476_0; first | rwa [add_block] at this | exact this) GW475.out); have hn476_2 : ad476.block ≠ gb475 := Nat.ne_of_lt (Nat.lt_of_lt_of_le (by have := World.block_lt_of_cell? _ _ hx476_0; first | rwa [add_block] at this | exact this) GW475.out); have hn476_3 : ad476.block ≠ gb475 := Nat.ne_of_lt (Nat.lt_of_lt_of_le (by have := World.block_lt_of_cell? _ _ hx476_0; first | rwa [add_block] at this | exact this) GW475.out); have hn476_4 : ad476.block ≠ gb475 := Nat.ne_of_lt (Nat.lt_of_lt_of_le (by have := World.block_lt_of_cell? _ _ hx476_0; first | rwa [add_block] at this | exact this) GW475.out); have hn476_5 : ad476.block ≠ gb475 := Nat.ne_of_lt (Nat.lt_of_lt_of_le (by have := World.block_lt_of_cell? _ _ hx476_0; first | rwa [add_block] at this | exact this) GW475.out); replace hx476_0 := (HB.out.cell (World.block_lt_of_cell? w _ hx476_0)).trans hx476_0; replace hx476_0 := (cell_far (p := ⟨gb475, 0, none⟩) (by first | (rw [add_block]; exact hn476_0) | (show (Addr.add _ _).block ≠ _; rw [add_block]; exact hn476_0) | exact hn476_0) (.int .i64 ((q24 l0 x17_1).f0))).trans hx476_0; replace hx476_0 := (cell_far (p := ⟨gb475, 1, none⟩) (by first | (rw [add_block]; exact hn476_1) | (show (Addr.add _ _).block ≠ _; rw [add_block]; exact hn476_1) | exact hn476_1) (.int .i64 ((q24 l0 x17_1).f1))).trans hx476_0; replace hx476_0 := (cell_far (p := ⟨gb475, 2, none⟩) (by first | (rw [add_block]; exact hn476_2) | (show (Addr.add _ _).block ≠ _; rw [add_block]; exact hn476_2) | exact hn476_2) (.int .i64 ((q24 l0 x17_1).f2))).trans hx476_0; replace hx476_0 := (cell_far (p := ⟨gb475, 3, none⟩) (by first | (rw [add_block]; exact hn476_3) | (show (Addr.add _ _).block ≠ _; rw [add_block]; exact hn476_3) | exact hn476_3) (.int .i64 ((q24 l0 x17_1).f3))).trans hx476_0; replace hx476_0 := (cell_far (p := ⟨gb475, 4, none⟩) (by first | (rw [add_block]; exact hn476_4) | (show (Addr.add _ _).block ≠ _; rw [add_block]; exact hn476_4) | exact hn476_4) (.int .i64 ((q24 l0 x17_1).f4))).trans hx476_0; replace hx476_0 := (cell_far (p := ⟨gb475, 5, none⟩) (by first | (rw [add_block]; exact hn476_5) | (show (Addr.add _ _).block ≠ _; rw [add_block]; exact hn476_5) | exact hn476_5) (.string ((q24 l0 x17_1).f5))).trans hx476_0; clear hn476_0; clear hn476_1; clear hn476_2; clear hn476_3; clear hn476_4; clear hn476_5; replace p476 := eq_true p476; replace q476 := eq_true q476; have hcz18_0 : w15.cell? ⟨gb473, 0, none⟩ = some (.int .i64 a1_0) := (bC_ BK473.out 0).trans rfl; have hcz18_1 : w15.cell? ⟨gb473, 1, none⟩ = some (.int .i64 a1_1) := (bC_ BK473.out 1).trans rfl; have hcz18_2 : w15.cell? ⟨gb473, 2, none⟩ = some (.int .i64 a1_2) := (bC_ BK473.out 2).trans rfl; have hcz18_3 : w15.cell? ⟨gb473, 3, none⟩ = some (.int .i64 a1_3) := (bC_ BK473.out 3).trans rfl; have hcz18_4 : w15.cell? ⟨gb473, 4, none⟩ = some (.int .i64 a1_4) := (bC_ BK473.out 4).trans rfl; have hcz18_5 : w15.cell? ⟨gb473, 5, none⟩ = some (.string a1_5) := (bC_ BK473.out 5).trans rfl; have hfz18_0 := bZ_ BK473.out 0; have hfz18_1 := bZ_ BK473.out 1; have hfz18_2 := bZ_ BK473.out 2; have hfz18_3 := bZ_ BK473.out 3; have hfz18_4 := bZ_ BK473.out 4; have hfz18_5 := bZ_ BK473.out 5) | ((with_reducible refine gC_ (f := 103) rfl ?_); refine goesL_ (some 28) rfl rfl Try.func103 (by kernel_rfl) rfl #[.agg #[.int .i64 a1_0, .int .i64 a1_1, .int .i64 a1_2, .int .i64 a1_3, .int .i64 a1_4, .string a1_5], .agg #[.int .i64 ((q24 l0 x17_1).f0), .int .i64 ((q24 l0 x17_1).f1), .int .i64 ((q24 l0 x17_1).f2), .int .i64 ((q24 l0 x17_1).f3), .int .i64 ((q24 l0 x17_1).f4), .string ((q24 l0 x17_1).f5)]] rfl (by (try simp only [List.map_toArray, List.map_cons, List.map_nil]); first | done | rfl) ?_; (with_reducible refine (dag_reads.calls k1 a1_0 a1_1 a1_2 a1_3 a1_4 a1_5 ((q24 l0 x17_1).f0) ((q24 l0 x17_1).f1) ((q24 l0 x17_1).f2) ((q24 l0 x17_1).f3) ((q24 l0 x17_1).f4) ((q24 l0 x17_1).f5) t477 _ A13.out).mono ?_); rintro e w19 ⟨rfl, hb⟩; refine ⟨_, rfl, ?_⟩; have n0_ := As_.mk (kB_ (g := gb473) (o := .cells #[.int .i64 a1_0, .int .i64 a1_1, .int .i64 a1_2, .int .i64 a1_3, .int .i64 a1_4, .string a1_5] 24 (0, 0)) (by (with_reducible repeat (first | refine kN_ ?_ _ | refine kD_ ?_ | refine kA_ ?_ _)); refine blk_far ?_ NB473_475.out _; (with_reducible repeat (first | refine kN_ ?_ _ | refine kD_ ?_ | refine kA_ ?_ _)); refine blk_far ?_ NB473_475.out _; (with_reducible repeat (first | refine kN_ ?_ _ | refine kD_ ?_ | refine kA_ ?_ _)); refine blk_far ?_ NB473_475.out _; (with_reducible repeat (first | refine kN_ ?_ _ | refine kD_ ?_ | refine kA_ ?_ _)); refine blk_far ?_ NB473_475.out _; (with_reducible repeat (first | refine kN_ ?_ _ | refine kD_ ?_ | refine kA_ ?_ _)); refine blk_far ?_ NB473_475.out _; (with_reducible repeat (first | refine kN_ ?_ _ | refine kD_ ?_ | refine kA_ ?_ _)); refine blk_far ?_ NB473_475.out _; (with_reducible repeat (first | refine kN_ ?_ _ | refine kD_ ?_ | refine kA_ ?_ _)); exact BK473.out) hb); have n1_ := As_.mk (kB_ (g := gb475) (o := .cells #[.int .i64 ((q24 l0 x17_1).f0), .int .i64 ((q24 l0 x17_1).f1), .int .i64 ((q24 l0 x17_1).f2), .int .i64 ((q24 l0 x17_1).f3), .int .i64 ((q24 l0 x17_1).f4), .string ((q24 l0 x17_1).f5)] 24 (0, 0)) (by (with_reducible repeat (first | refine kN_ ?_ _ | refine kD_ ?_ | refine kA_ ?_ _)); refine blk_put (cs := #[.int .i64 ((q24 l0 x17_1).f0), .int .i64 ((q24 l0 x17_1).f1), .int .i64 ((q24 l0 x17_1).f2), .int .i64 ((q24 l0 x17_1).f3), .int .i64 ((q24 l0 x17_1).f4), .string (⟨#[]⟩ : ByteArray)]) ?_ 5 _ rfl; (with_reducible repeat (first | refine kN_ ?_ _ | refine kD_ ?_ | refine kA_ ?_ _)); refine blk_put (cs := #[.int .i64 ((q24 l0 x17_1).f0), .int .i64 ((q24 l0 x17_1).f1), .int .i64 ((q24 l0 x17_1).f2), .int .i64 ((q24 l0 x17_1).f3), .int .i64 0, .string (⟨#[]⟩ : ByteArray)]) ?_ 4 _ rfl; (with_reducible repeat (first | refine kN_ ?_ _ | refine kD_ ?_ | refine kA_ ?_ _)); refine blk_put (cs := #[.int .i64 ((q24 l0 x17_1).f0), .int .i64 ((q24 l0 x17_1).f1), .int .i64 ((q24 l0 x17_1).f2), .int .i64 0, .int .i64 0, .string (⟨#[]⟩ : ByteArray)]) ?_ 3 _ rfl; (with_reducible repeat (first | refine kN_ ?_ _ | refine kD_ ?_ | refine kA_ ?_ _)); refine blk_put (cs := #[.int .i64 ((q24 l0 x17_1).f0), .int .i64 ((q24 l0 x17_1).f1), .int .i64 0, .int .i64 0, .int .i64 0, .string (⟨#[]⟩ : ByteArray)]) ?_ 2 _ rfl; (with_reducible repeat (first | refine kN_ ?_ _ | refine kD_ ?_ | refine kA_ ?_ _)); refine blk_put (cs := #[.int .i64 ((q24 l0 x17_1).f0), .int .i64 0, .int .i64 0, .int .i64 0, .int .i64 0, .string (⟨#[]⟩ : ByteArray)]) ?_ 1 _ rfl; (with_reducible repeat (first | refine kN_ ?_ _ | refine kD_ ?_ | refine kA_ ?_ _)); refine blk_put (cs := #[.int .i64 0, .int .i64 0, .int .i64 0, .int .i64 0, .int .i64 0, .string (⟨#[]⟩ : ByteArray)]) ?_ 0 _ rfl; (with_reducible repeat (first | refine kN_ ?_ _ | refine kD_ ?_ | refine kA_ ?_ _)); exact BK475.out) hb); have n2_ := As_.mk (bT_ (by repeat (first | (with_reducible first | exact HB.out | apply bA_ | apply bN_ | apply b1_ | refine bS_ ?_ GE473.out | refine bS_ ?_ GE475.out) | exact HB.out)) hb); clear BK473; clear BK475; clear HB; have BK473 := n0_; have BK475 := n1_; have HB := n2_; clear n0_ n1_ n2_))
       (try simp only [Act.put, List.setIfInBounds_toArray, List.set_cons_zero, List.set_cons_succ])
       go_cut [7] (fun v7 wc => ∃ (kq : Nat) (x7_13 : Int), v7 = .int .i64 x7_13 ∧ As_ (dag_Least.j1 kq l2 x7_13 (rd l2 x17_1) l0 (l0.length : Int) x17_1 a1_0 a1_1 a1_2 a1_3 a1_4 a1_5 ((q24 l0 x17_1).f0) ((q24 l0 x17_1).f1) ((q24 l0 x17_1).f2) ((q24 l0 x17_1).f3) ((q24 l0 x17_1).f4) ((q24 l0 x17_1).f5) = some r) ∧ As_ (kq ≤ k1) ∧ As_ (wc.heap[gb473]? = some (.cells #[.int .i64 a1_0, .int .i64 a1_1, .int .i64 a1_2, .int .i64 a1_3, .int .i64 a1_4, .string a1_5] 24 (0, 0))) ∧ As_ (wc.heap[gb475]? = some (.cells #[.int .i64 ((q24 l0 x17_1).f0), .int .i64 ((q24 l0 x17_1).f1), .int .i64 ((q24 l0 x17_1).f2), .int .i64 ((q24 l0 x17_1).f3), .int .i64 ((q24 l0 x17_1).f4), .string ((q24 l0 x17_1).f5)] 24 (0, 0))) ∧ As_ (Below w.heap.size w wc))
       case first =>
        have H := HC14.out
        clear HC14
        by_cases c20 : t477 = true
        ·subst c20
         have H1 : ((isa_Late.f k1 ((q24 l0 x17_1).f0)).bind fun t478 => (dag_Least.j1 k1 l2 (mx x7_1 (wrap64 ((rd l2 x17_1) + t478))) (rd l2 x17_1) l0 (l0.length : Int) x17_1 a1_0 a1_1 a1_2 a1_3 a1_4 a1_5 ((q24 l0 x17_1).f0) ((q24 l0 x17_1).f1) ((q24 l0 x17_1).f2) ((q24 l0 x17_1).f3) ((q24 l0 x17_1).f4) ((q24 l0 x17_1).f5))) = some r := by rw [if_pos rfl] at H; exact H
         clear H
         have H := H1
         clear H1
         replace H := Option.bind_eq_some_iff.mp H
         obtain ⟨t478, A210, H⟩ := H
         replace H : (dag_Least.j1 k1 l2 (mx x7_1 (wrap64 ((rd l2 x17_1) + t478))) (rd l2 x17_1) l0 (l0.length : Int) x17_1 a1_0 a1_1 a1_2 a1_3 a1_4 a1_5 ((q24 l0 x17_1).f0) ((q24 l0 x17_1).f1) ((q24 l0 x17_1).f2) ((q24 l0 x17_1).f3) ((q24 l0 x17_1).f4) ((q24 l0 x17_1).f5)) = some r := H
         have A21 := As_.mk A210
         clear A210
         obtain ⟨ji22, hji22⟩ : ∃ j_ : Int, (mx x7_1 (wrap64 ((rd l2 x17_1) + t478))) = j_ := ⟨_, rfl⟩
         replace H : (dag_Least.j1 k1 l2 ji22 (rd l2 x17_1) l0 (l0.length : Int) x17_1 a1_0 a1_1 a1_2 a1_3 a1_4 a1_5 ((q24 l0 x17_1).f0) ((q24 l0 x17_1).f1) ((q24 l0 x17_1).f2) ((q24 l0 x17_1).f3) ((q24 l0 x17_1).f4) ((q24 l0 x17_1).f5)) = some r := by first | (rw [hji22] at H; exact H) | (simp only [hji22] at H ⊢; exact H)
         (try rw [hji22] at A21)
         have hji22_ : (if x7_1 < (wrap64 ((rd l2 x17_1) + t478)) then (wrap64 ((rd l2 x17_1) + t478)) else x7_1) = ji22 := hji22
         have H' := As_.mk H
         clear H
         have hnb23 := NB475_473.out
         have hnc23 := NB473_475.out
         have hcz24_0 : w19.cell? ⟨gb475, 0, none⟩ = some (.int .i64 ((q24 l0 x17_1).f0)) := (bC_ BK475.out 0).trans rfl
         have hcz24_1 : w19.cell? ⟨gb475, 1, none⟩ = some (.int .i64 ((q24 l0 x17_1).f1)) := (bC_ BK475.out 1).trans rfl
         have hcz24_2 : w19.cell? ⟨gb475, 2, none⟩ = some (.int .i64 ((q24 l0 x17_1).f2)) := (bC_ BK475.out 2).trans rfl
         have hcz24_3 : w19.cell? ⟨gb475, 3, none⟩ = some (.int .i64 ((q24 l0 x17_1).f3)) := (bC_ BK475.out 3).trans rfl
         have hcz24_4 : w19.cell? ⟨gb475, 4, none⟩ = some (.int .i64 ((q24 l0 x17_1).f4)) := (bC_ BK475.out 4).trans rfl
         have hcz24_5 : w19.cell? ⟨gb475, 5, none⟩ = some (.string ((q24 l0 x17_1).f5)) := (bC_ BK475.out 5).trans rfl
         have hfz24_0 := bZ_ BK475.out 0
         have hfz24_1 := bZ_ BK475.out 1
         have hfz24_2 := bZ_ BK475.out 2
         have hfz24_3 := bZ_ BK475.out 3
         have hfz24_4 := bZ_ BK475.out 4
         have hfz24_5 := bZ_ BK475.out 5
         go_wp2_with (first | ((with_reducible refine gC_ (f := 92) rfl ?_); refine goesL_ (some 33) rfl rfl Try.func92 (by kernel_rfl) rfl #[.int .i64 ((q24 l0 x17_1).f0)] rfl (by (try simp only [List.map_toArray, List.map_cons, List.map_nil]); first | done | rfl) ?_; (with_reducible refine (isa_Late.calls k1 ((q24 l0 x17_1).f0) t478 _ A21.out).mono ?_); rintro e w' ⟨rfl, ⟨nd, rfl⟩⟩; refine ⟨_, rfl, ?_⟩))
         go_meet
         case rel => exact ⟨_, (ji22), (by first | rfl | (simp; done) | (simp only [← hji22] <;> (first | rfl | simp)) | (simp [*]; done) | (congr 1; rw [Bool.eq_iff_iff]; simp; done)), H', ⟨by have := HK1.out; first | omega | exact Nat.le_refl _⟩, ⟨by (with_reducible repeat (first | refine kN_ ?_ _ | refine kD_ ?_ | refine kA_ ?_ _)); exact BK473.out⟩, ⟨by (with_reducible repeat (first | refine kN_ ?_ _ | refine kD_ ?_ | refine kA_ ?_ _)); exact BK475.out⟩, ⟨by repeat (first | (with_reducible first | exact HB.out | apply bA_ | apply bN_ | apply b1_ | refine bS_ ?_ GE473.out | refine bS_ ?_ GE475.out) | exact HB.out)⟩⟩
        replace c20 := Bool.eq_false_iff.mpr c20
        subst c20
        have H1 : (dag_Least.j1 k1 l2 x7_1 (rd l2 x17_1) l0 (l0.length : Int) x17_1 a1_0 a1_1 a1_2 a1_3 a1_4 a1_5 ((q24 l0 x17_1).f0) ((q24 l0 x17_1).f1) ((q24 l0 x17_1).f2) ((q24 l0 x17_1).f3) ((q24 l0 x17_1).f4) ((q24 l0 x17_1).f5)) = some r := by rw [if_neg (show ¬ (false = true) by decide)] at H; exact H
        clear H
        have H := H1
        clear H1
        have H' := As_.mk H
        clear H
        go_wp2
        go_meet
        case rel => exact ⟨_, (x7_1), (by first | rfl | (simp; done) | (simp [*]; done) | (simp [wrap64]; done) | (congr 1; rw [Bool.eq_iff_iff]; simp; done)), H', ⟨by have := HK1.out; first | omega | exact Nat.le_refl _⟩, ⟨by (with_reducible repeat (first | refine kN_ ?_ _ | refine kD_ ?_ | refine kA_ ?_ _)); exact BK473.out⟩, ⟨by (with_reducible repeat (first | refine kN_ ?_ _ | refine kD_ ?_ | refine kA_ ?_ _)); exact BK475.out⟩, ⟨by repeat (first | (with_reducible first | exact HB.out | apply bA_ | apply bN_ | apply b1_ | refine bS_ ?_ GE473.out | refine bS_ ?_ GE475.out) | exact HB.out)⟩⟩
       case rest =>
        clear HC14
        obtain ⟨kq, x7_13, rfl, HA, HJ13, BK473, BK475, HB⟩ := hcut
        cases kq with
        | zero => exact absurd HA.out (by simp [dag_Least.j1])
        | succ kj13 =>
         have H := HA.out
         clear HA
         simp only [dag_Least.j1] at H
         have HC25 := As_.mk H
         clear H
         go_upto_region 10 with (fail)
         go_cut [48] (fun v48 wc => ∃ (kq : Nat) (x48_24 : Bool), v48 = .bool x48_24 ∧ As_ (dag_Least.j2 kq l2 x7_13 (rd l2 x17_1) l0 (l0.length : Int) x17_1 x48_24 a1_0 a1_1 a1_2 a1_3 a1_4 a1_5 ((q24 l0 x17_1).f0) ((q24 l0 x17_1).f1) ((q24 l0 x17_1).f2) ((q24 l0 x17_1).f3) ((q24 l0 x17_1).f4) ((q24 l0 x17_1).f5) = some r) ∧ As_ (kq ≤ kj13) ∧ As_ (wc.heap[gb473]? = some (.cells #[.int .i64 a1_0, .int .i64 a1_1, .int .i64 a1_2, .int .i64 a1_3, .int .i64 a1_4, .string a1_5] 24 (0, 0))) ∧ As_ (wc.heap[gb475]? = some (.cells #[.int .i64 ((q24 l0 x17_1).f0), .int .i64 ((q24 l0 x17_1).f1), .int .i64 ((q24 l0 x17_1).f2), .int .i64 ((q24 l0 x17_1).f3), .int .i64 ((q24 l0 x17_1).f4), .string ((q24 l0 x17_1).f5)] 24 (0, 0))) ∧ As_ (Below w.heap.size w wc))
         case first =>
          have H := HC25.out
          clear HC25
          by_cases c26 : a1_0 = 33
          ·rw [if_pos c26] at H
           have c26b0 : (a1_0 == 33) = true := beq_iff_eq.mpr c26
           have c26b1 : (a1_0 != 33) = false := bne_eq_false_iff_eq.mpr c26
           clear c26
           (first | rw [c26b0] | (simp only [i64_w, i32_w]; rw [c26b0]) | skip)
           have H' := As_.mk H
           clear H
           have hnb27 := NB473_475.out
           have hnc27 := NB475_473.out
           have hcz28_0 : wc.cell? ⟨gb473, 0, none⟩ = some (.int .i64 a1_0) := (bC_ BK473.out 0).trans rfl
           have hcz28_1 : wc.cell? ⟨gb473, 1, none⟩ = some (.int .i64 a1_1) := (bC_ BK473.out 1).trans rfl
           have hcz28_2 : wc.cell? ⟨gb473, 2, none⟩ = some (.int .i64 a1_2) := (bC_ BK473.out 2).trans rfl
           have hcz28_3 : wc.cell? ⟨gb473, 3, none⟩ = some (.int .i64 a1_3) := (bC_ BK473.out 3).trans rfl
           have hcz28_4 : wc.cell? ⟨gb473, 4, none⟩ = some (.int .i64 a1_4) := (bC_ BK473.out 4).trans rfl
           have hcz28_5 : wc.cell? ⟨gb473, 5, none⟩ = some (.string a1_5) := (bC_ BK473.out 5).trans rfl
           have hfz28_0 := bZ_ BK473.out 0
           have hfz28_1 := bZ_ BK473.out 1
           have hfz28_2 := bZ_ BK473.out 2
           have hfz28_3 := bZ_ BK473.out 3
           have hfz28_4 := bZ_ BK473.out 4
           have hfz28_5 := bZ_ BK473.out 5
           go_wp2
           go_meet
           case rel => exact ⟨_, (true), (by first | rfl | (simp; done) | (simp [*]; done) | (simp [wrap64]; done) | (congr 1; rw [Bool.eq_iff_iff]; simp; done)), H', ⟨by have := HK1.out; have := HJ13.out; first | omega | exact Nat.le_refl _⟩, ⟨by (with_reducible repeat (first | refine kN_ ?_ _ | refine kD_ ?_ | refine kA_ ?_ _)); exact BK473.out⟩, ⟨by (with_reducible repeat (first | refine kN_ ?_ _ | refine kD_ ?_ | refine kA_ ?_ _)); exact BK475.out⟩, ⟨by repeat (first | (with_reducible first | exact HB.out | apply bA_ | apply bN_ | apply b1_ | refine bS_ ?_ GE473.out | refine bS_ ?_ GE475.out) | exact HB.out)⟩⟩
          rw [if_neg c26] at H
          have c26b0 : (a1_0 == 33) = false := beq_eq_false_iff_ne.mpr c26
          have c26b1 : (a1_0 != 33) = true := bne_iff_ne.mpr c26
          (first | rw [c26b0] | (simp only [i64_w, i32_w]; rw [c26b0]) | skip)
          replace H := Option.bind_eq_some_iff.mp H
          obtain ⟨t479, A290, H⟩ := H
          replace H : (if t479 = true then ((isa_Effect.f kj13 ((q24 l0 x17_1).f0)).bind fun t480 => (dag_Least.j2 kj13 l2 x7_13 (rd l2 x17_1) l0 (l0.length : Int) x17_1 t480 a1_0 a1_1 a1_2 a1_3 a1_4 a1_5 ((q24 l0 x17_1).f0) ((q24 l0 x17_1).f1) ((q24 l0 x17_1).f2) ((q24 l0 x17_1).f3) ((q24 l0 x17_1).f4) ((q24 l0 x17_1).f5))) else (dag_Least.j2 kj13 l2 x7_13 (rd l2 x17_1) l0 (l0.length : Int) x17_1 false a1_0 a1_1 a1_2 a1_3 a1_4 a1_5 ((q24 l0 x17_1).f0) ((q24 l0 x17_1).f1) ((q24 l0 x17_1).f2) ((q24 l0 x17_1).f3) ((q24 l0 x17_1).f4) ((q24 l0 x17_1).f5))) = some r := H
          have A29 := As_.mk A290
          clear A290
          by_cases c30 : t479 = true
          ·subst c30
           have H1 : ((isa_Effect.f kj13 ((q24 l0 x17_1).f0)).bind fun t480 => (dag_Least.j2 kj13 l2 x7_13 (rd l2 x17_1) l0 (l0.length : Int) x17_1 t480 a1_0 a1_1 a1_2 a1_3 a1_4 a1_5 ((q24 l0 x17_1).f0) ((q24 l0 x17_1).f1) ((q24 l0 x17_1).f2) ((q24 l0 x17_1).f3) ((q24 l0 x17_1).f4) ((q24 l0 x17_1).f5))) = some r := by rw [if_pos rfl] at H; exact H
           clear H
           have H := H1
           clear H1
           replace H := Option.bind_eq_some_iff.mp H
           obtain ⟨t480, A310, H⟩ := H
           replace H : (dag_Least.j2 kj13 l2 x7_13 (rd l2 x17_1) l0 (l0.length : Int) x17_1 t480 a1_0 a1_1 a1_2 a1_3 a1_4 a1_5 ((q24 l0 x17_1).f0) ((q24 l0 x17_1).f1) ((q24 l0 x17_1).f2) ((q24 l0 x17_1).f3) ((q24 l0 x17_1).f4) ((q24 l0 x17_1).f5)) = some r := H
           have A31 := As_.mk A310
           clear A310
           have H' := As_.mk H
           clear H
           have hnb32 := NB473_475.out
           have hnc32 := NB475_473.out
           have hcz33_0 : wc.cell? ⟨gb473, 0, none⟩ = some (.int .i64 a1_0) := (bC_ BK473.out 0).trans rfl
           have hcz33_1 : wc.cell? ⟨gb473, 1, none⟩ = some (.int .i64 a1_1) := (bC_ BK473.out 1).trans rfl
           have hcz33_2 : wc.cell? ⟨gb473, 2, none⟩ = some (.int .i64 a1_2) := (bC_ BK473.out 2).trans rfl
           have hcz33_3 : wc.cell? ⟨gb473, 3, none⟩ = some (.int .i64 a1_3) := (bC_ BK473.out 3).trans rfl
           have hcz33_4 : wc.cell? ⟨gb473, 4, none⟩ = some (.int .i64 a1_4) := (bC_ BK473.out 4).trans rfl
           have hcz33_5 : wc.cell? ⟨gb473, 5, none⟩ = some (.string a1_5) := (bC_ BK473.out 5).trans rfl
           have hfz33_0 := bZ_ BK473.out 0
           have hfz33_1 := bZ_ BK473.out 1
           have hfz33_2 := bZ_ BK473.out 2
           have hfz33_3 := bZ_ BK473.out 3
           have hfz33_4 := bZ_ BK473.out 4
           have hfz33_5 := bZ_ BK473.out 5
           go_wp2_with (first | (go_at_call 94; (with_reducible refine (isa_Effect.calls kj13 a1_0 true _ A29.out).mono ?_); rintro e w' ⟨rfl, ⟨nd, rfl⟩⟩; have hcz34_0 : wc.cell? ⟨gb475, 0, none⟩ = some (.int .i64 ((q24 l0 x17_1).f0)) := (bC_ BK475.out 0).trans rfl; have hcz34_1 : wc.cell? ⟨gb475, 1, none⟩ = some (.int .i64 ((q24 l0 x17_1).f1)) := (bC_ BK475.out 1).trans rfl; have hcz34_2 : wc.cell? ⟨gb475, 2, none⟩ = some (.int .i64 ((q24 l0 x17_1).f2)) := (bC_ BK475.out 2).trans rfl; have hcz34_3 : wc.cell? ⟨gb475, 3, none⟩ = some (.int .i64 ((q24 l0 x17_1).f3)) := (bC_ BK475.out 3).trans rfl; have hcz34_4 : wc.cell? ⟨gb475, 4, none⟩ = some (.int .i64 ((q24 l0 x17_1).f4)) := (bC_ BK475.out 4).trans rfl; have hcz34_5 : wc.cell? ⟨gb475, 5, none⟩ = some (.string ((q24 l0 x17_1).f5)) := (bC_ BK475.out 5).trans rfl; have hfz34_0 := bZ_ BK475.out 0; have hfz34_1 := bZ_ BK475.out 1; have hfz34_2 := bZ_ BK475.out 2; have hfz34_3 := bZ_ BK475.out 3; have hfz34_4 := bZ_ BK475.out 4; have hfz34_5 := bZ_ BK475.out 5) | (go_at_call 94; (with_reducible refine (isa_Effect.calls kj13 ((q24 l0 x17_1).f0) t480 _ A31.out).mono ?_); rintro e w' ⟨rfl, ⟨nd, rfl⟩⟩))
           go_meet
           case rel => exact ⟨_, (t480), (by first | rfl | (simp; done) | (simp [*]; done) | (simp [wrap64]; done) | (congr 1; rw [Bool.eq_iff_iff]; simp; done)), H', ⟨by have := HK1.out; have := HJ13.out; first | omega | exact Nat.le_refl _⟩, ⟨by (with_reducible repeat (first | refine kN_ ?_ _ | refine kD_ ?_ | refine kA_ ?_ _)); exact BK473.out⟩, ⟨by (with_reducible repeat (first | refine kN_ ?_ _ | refine kD_ ?_ | refine kA_ ?_ _)); exact BK475.out⟩, ⟨by repeat (first | (with_reducible first | exact HB.out | apply bA_ | apply bN_ | apply b1_ | refine bS_ ?_ GE473.out | refine bS_ ?_ GE475.out) | exact HB.out)⟩⟩
          replace c30 := Bool.eq_false_iff.mpr c30
          subst c30
          have H1 : (dag_Least.j2 kj13 l2 x7_13 (rd l2 x17_1) l0 (l0.length : Int) x17_1 false a1_0 a1_1 a1_2 a1_3 a1_4 a1_5 ((q24 l0 x17_1).f0) ((q24 l0 x17_1).f1) ((q24 l0 x17_1).f2) ((q24 l0 x17_1).f3) ((q24 l0 x17_1).f4) ((q24 l0 x17_1).f5)) = some r := by rw [if_neg (show ¬ (false = true) by decide)] at H; exact H
          clear H
          have H := H1
          clear H1
          have H' := As_.mk H
          clear H
          have hnb35 := NB473_475.out
          have hnc35 := NB475_473.out
          have hcz36_0 : wc.cell? ⟨gb473, 0, none⟩ = some (.int .i64 a1_0) := (bC_ BK473.out 0).trans rfl
          have hcz36_1 : wc.cell? ⟨gb473, 1, none⟩ = some (.int .i64 a1_1) := (bC_ BK473.out 1).trans rfl
          have hcz36_2 : wc.cell? ⟨gb473, 2, none⟩ = some (.int .i64 a1_2) := (bC_ BK473.out 2).trans rfl
          have hcz36_3 : wc.cell? ⟨gb473, 3, none⟩ = some (.int .i64 a1_3) := (bC_ BK473.out 3).trans rfl
          have hcz36_4 : wc.cell? ⟨gb473, 4, none⟩ = some (.int .i64 a1_4) := (bC_ BK473.out 4).trans rfl
          have hcz36_5 : wc.cell? ⟨gb473, 5, none⟩ = some (.string a1_5) := (bC_ BK473.out 5).trans rfl
          have hfz36_0 := bZ_ BK473.out 0
          have hfz36_1 := bZ_ BK473.out 1
          have hfz36_2 := bZ_ BK473.out 2
          have hfz36_3 := bZ_ BK473.out 3
          have hfz36_4 := bZ_ BK473.out 4
          have hfz36_5 := bZ_ BK473.out 5
          go_wp2_with (first | (go_at_call 94; (with_reducible refine (isa_Effect.calls kj13 a1_0 false _ A29.out).mono ?_); rintro e w' ⟨rfl, ⟨nd, rfl⟩⟩))
          go_meet
          case rel => exact ⟨_, (false), (by first | rfl | (simp; done) | (simp [*]; done) | (simp [wrap64]; done) | (congr 1; rw [Bool.eq_iff_iff]; simp; done)), H', ⟨by have := HK1.out; have := HJ13.out; first | omega | exact Nat.le_refl _⟩, ⟨by (with_reducible repeat (first | refine kN_ ?_ _ | refine kD_ ?_ | refine kA_ ?_ _)); exact BK473.out⟩, ⟨by (with_reducible repeat (first | refine kN_ ?_ _ | refine kD_ ?_ | refine kA_ ?_ _)); exact BK475.out⟩, ⟨by repeat (first | (with_reducible first | exact HB.out | apply bA_ | apply bN_ | apply b1_ | refine bS_ ?_ GE473.out | refine bS_ ?_ GE475.out) | exact HB.out)⟩⟩
         case rest =>
          clear HC25
          obtain ⟨kq, x48_24, rfl, HA, HJ24, BK473, BK475, HB⟩ := hcut
          cases kq with
          | zero => exact absurd HA.out (by simp [dag_Least.j2])
          | succ kj24 =>
           have H := HA.out
           clear HA
           simp only [dag_Least.j2] at H
           have HC37 := As_.mk H
           clear H
           go_upto_if 48 with (fail)
           go_cut [7] (fun v7 wc => ∃ (kq : Nat) (x7_36 : Int), v7 = .int .i64 x7_36 ∧ As_ (dag_Least.j3 kq l2 x7_36 (rd l2 x17_1) l0 (l0.length : Int) x17_1 a1_0 a1_1 a1_2 a1_3 a1_4 a1_5 ((q24 l0 x17_1).f0) ((q24 l0 x17_1).f1) ((q24 l0 x17_1).f2) ((q24 l0 x17_1).f3) ((q24 l0 x17_1).f4) ((q24 l0 x17_1).f5) = some r) ∧ As_ (kq ≤ kj24) ∧ As_ (wc.heap[gb473]? = some (.cells #[.int .i64 a1_0, .int .i64 a1_1, .int .i64 a1_2, .int .i64 a1_3, .int .i64 a1_4, .string a1_5] 24 (0, 0))) ∧ As_ (wc.heap[gb475]? = some (.cells #[.int .i64 ((q24 l0 x17_1).f0), .int .i64 ((q24 l0 x17_1).f1), .int .i64 ((q24 l0 x17_1).f2), .int .i64 ((q24 l0 x17_1).f3), .int .i64 ((q24 l0 x17_1).f4), .string ((q24 l0 x17_1).f5)] 24 (0, 0))) ∧ As_ (Below w.heap.size w wc))
           case first =>
            have H := HC37.out
            clear HC37
            by_cases c38 : x48_24 = true
            ·subst c38
             have H1 : (dag_Least.j3 kj24 l2 (mx x7_13 (wrap64 ((rd l2 x17_1) + 1))) (rd l2 x17_1) l0 (l0.length : Int) x17_1 a1_0 a1_1 a1_2 a1_3 a1_4 a1_5 ((q24 l0 x17_1).f0) ((q24 l0 x17_1).f1) ((q24 l0 x17_1).f2) ((q24 l0 x17_1).f3) ((q24 l0 x17_1).f4) ((q24 l0 x17_1).f5)) = some r := by rw [if_pos rfl] at H; exact H
             clear H
             have H := H1
             clear H1
             obtain ⟨ji39, hji39⟩ : ∃ j_ : Int, (mx x7_13 (wrap64 ((rd l2 x17_1) + 1))) = j_ := ⟨_, rfl⟩
             replace H : (dag_Least.j3 kj24 l2 ji39 (rd l2 x17_1) l0 (l0.length : Int) x17_1 a1_0 a1_1 a1_2 a1_3 a1_4 a1_5 ((q24 l0 x17_1).f0) ((q24 l0 x17_1).f1) ((q24 l0 x17_1).f2) ((q24 l0 x17_1).f3) ((q24 l0 x17_1).f4) ((q24 l0 x17_1).f5)) = some r := by first | (rw [hji39] at H; exact H) | (simp only [hji39] at H ⊢; exact H)
             have hji39_ : (if x7_13 < (wrap64 ((rd l2 x17_1) + 1)) then (wrap64 ((rd l2 x17_1) + 1)) else x7_13) = ji39 := hji39
             have H' := As_.mk H
             clear H
             go_wp2
             go_meet
             case rel => exact ⟨_, (ji39), (by first | rfl | (simp; done) | (simp only [← hji39] <;> (first | rfl | simp)) | (simp [*]; done) | (congr 1; rw [Bool.eq_iff_iff]; simp; done)), H', ⟨by have := HK1.out; have := HJ13.out; have := HJ24.out; first | omega | exact Nat.le_refl _⟩, ⟨by (with_reducible repeat (first | refine kN_ ?_ _ | refine kD_ ?_ | refine kA_ ?_ _)); exact BK473.out⟩, ⟨by (with_reducible repeat (first | refine kN_ ?_ _ | refine kD_ ?_ | refine kA_ ?_ _)); exact BK475.out⟩, ⟨by repeat (first | (with_reducible first | exact HB.out | apply bA_ | apply bN_ | apply b1_ | refine bS_ ?_ GE473.out | refine bS_ ?_ GE475.out) | exact HB.out)⟩⟩
            replace c38 := Bool.eq_false_iff.mpr c38
            subst c38
            have H1 : (dag_Least.j3 kj24 l2 x7_13 (rd l2 x17_1) l0 (l0.length : Int) x17_1 a1_0 a1_1 a1_2 a1_3 a1_4 a1_5 ((q24 l0 x17_1).f0) ((q24 l0 x17_1).f1) ((q24 l0 x17_1).f2) ((q24 l0 x17_1).f3) ((q24 l0 x17_1).f4) ((q24 l0 x17_1).f5)) = some r := by rw [if_neg (show ¬ (false = true) by decide)] at H; exact H
            clear H
            have H := H1
            clear H1
            have H' := As_.mk H
            clear H
            go_wp2
            go_meet
            case rel => exact ⟨_, (x7_13), (by first | rfl | (simp; done) | (simp [*]; done) | (simp [wrap64]; done) | (congr 1; rw [Bool.eq_iff_iff]; simp; done)), H', ⟨by have := HK1.out; have := HJ13.out; have := HJ24.out; first | omega | exact Nat.le_refl _⟩, ⟨by (with_reducible repeat (first | refine kN_ ?_ _ | refine kD_ ?_ | refine kA_ ?_ _)); exact BK473.out⟩, ⟨by (with_reducible repeat (first | refine kN_ ?_ _ | refine kD_ ?_ | refine kA_ ?_ _)); exact BK475.out⟩, ⟨by repeat (first | (with_reducible first | exact HB.out | apply bA_ | apply bN_ | apply b1_ | refine bS_ ?_ GE473.out | refine bS_ ?_ GE475.out) | exact HB.out)⟩⟩
           case rest =>
            clear HC37
            obtain ⟨kq, x7_36, rfl, HA, HJ36, BK473, BK475, HB⟩ := hcut
            cases kq with
            | zero => exact absurd HA.out (by simp [dag_Least.j3])
            | succ kj36 =>
             have H := HA.out
             clear HA
             simp only [dag_Least.j3] at H
             by_cases c40 : a1_0 = 33
             ·rw [if_pos c40] at H
              have c40b0 : (a1_0 == 33) = true := beq_iff_eq.mpr c40
              have c40b1 : (a1_0 != 33) = false := bne_eq_false_iff_eq.mpr c40
              clear c40
              have H' := As_.mk H
              clear H
              have hnb41 := NB473_475.out
              have hnc41 := NB475_473.out
              have hcz42_0 : wc.cell? ⟨gb473, 0, none⟩ = some (.int .i64 a1_0) := (bC_ BK473.out 0).trans rfl
              have hcz42_1 : wc.cell? ⟨gb473, 1, none⟩ = some (.int .i64 a1_1) := (bC_ BK473.out 1).trans rfl
              have hcz42_2 : wc.cell? ⟨gb473, 2, none⟩ = some (.int .i64 a1_2) := (bC_ BK473.out 2).trans rfl
              have hcz42_3 : wc.cell? ⟨gb473, 3, none⟩ = some (.int .i64 a1_3) := (bC_ BK473.out 3).trans rfl
              have hcz42_4 : wc.cell? ⟨gb473, 4, none⟩ = some (.int .i64 a1_4) := (bC_ BK473.out 4).trans rfl
              have hcz42_5 : wc.cell? ⟨gb473, 5, none⟩ = some (.string a1_5) := (bC_ BK473.out 5).trans rfl
              have hfz42_0 := bZ_ BK473.out 0
              have hfz42_1 := bZ_ BK473.out 1
              have hfz42_2 := bZ_ BK473.out 2
              have hfz42_3 := bZ_ BK473.out 3
              have hfz42_4 := bZ_ BK473.out 4
              have hfz42_5 := bZ_ BK473.out 5
              go_wp2
              go_roundg kj36
              case measure => have := HK1.out; have := HJ13.out; have := HJ24.out; have := HJ36.out; omega
              case rel => exact ⟨(x7_36), (wrap64 (x17_1 + 1)), (by first | rfl | (simp; done) | (simp [*]; done) | (simp [wrap64]; done) | (congr 1; rw [Bool.eq_iff_iff]; simp; done)), (by first | rfl | (simp; done) | (simp [*]; done) | (simp [wrap64]; done) | (congr 1; rw [Bool.eq_iff_iff]; simp; done)), H', ⟨by have := HK1.out; have := HJ13.out; have := HJ24.out; have := HJ36.out; omega⟩, ⟨by (with_reducible repeat (first | refine kN_ ?_ _ | refine kD_ ?_ | refine kA_ ?_ _)); exact BK473.out⟩, ⟨by repeat (first | (with_reducible first | exact HB.out | apply bA_ | apply bN_ | apply b1_ | refine bS_ ?_ GE473.out | refine bS_ ?_ GE475.out) | exact HB.out)⟩⟩
             rw [if_neg c40] at H
             have c40b0 : (a1_0 == 33) = false := beq_eq_false_iff_ne.mpr c40
             have c40b1 : (a1_0 != 33) = true := bne_iff_ne.mpr c40
             replace H := Option.bind_eq_some_iff.mp H
             obtain ⟨t481, A430, H⟩ := H
             replace H : (dag_Least.l0 kj36 l2 (mx (mx x7_36 (wrap64 ((rd l2 x17_1) - 2))) (wrap64 ((wrap64 ((wrap64 ((rd l2 x17_1) + t481)) - 2)) - 1))) l0 (l0.length : Int) (wrap64 (x17_1 + 1)) a1_0 a1_1 a1_2 a1_3 a1_4 a1_5) = some r := H
             have A43 := As_.mk A430
             clear A430
             obtain ⟨ji44, hji44⟩ : ∃ j_ : Int, (mx x7_36 (wrap64 ((rd l2 x17_1) - 2))) = j_ := ⟨_, rfl⟩
             replace H : (dag_Least.l0 kj36 l2 (mx (ji44) (wrap64 ((wrap64 ((wrap64 ((rd l2 x17_1) + t481)) - 2)) - 1))) l0 (l0.length : Int) (wrap64 (x17_1 + 1)) a1_0 a1_1 a1_2 a1_3 a1_4 a1_5) = some r := by first | (rw [hji44] at H; exact H) | (simp only [hji44] at H ⊢; exact H)
             (try rw [hji44] at A43)
             have hji44_ : (if x7_36 < (wrap64 ((rd l2 x17_1) - 2)) then (wrap64 ((rd l2 x17_1) - 2)) else x7_36) = ji44 := hji44
             obtain ⟨ji45, hji45⟩ : ∃ j_ : Int, (mx (ji44) (wrap64 ((wrap64 ((wrap64 ((rd l2 x17_1) + t481)) - 2)) - 1))) = j_ := ⟨_, rfl⟩
             replace H : (dag_Least.l0 kj36 l2 ji45 l0 (l0.length : Int) (wrap64 (x17_1 + 1)) a1_0 a1_1 a1_2 a1_3 a1_4 a1_5) = some r := by first | (rw [hji45] at H; exact H) | (simp only [hji45] at H ⊢; exact H)
             (try rw [hji45] at A43)
             have hji45_ : (if (ji44) < (wrap64 ((wrap64 ((wrap64 ((rd l2 x17_1) + t481)) - 2)) - 1)) then (wrap64 ((wrap64 ((wrap64 ((rd l2 x17_1) + t481)) - 2)) - 1)) else (ji44)) = ji45 := hji45
             have H' := As_.mk H
             clear H
             have hnb46 := NB473_475.out
             have hnc46 := NB475_473.out
             have hcz47_0 : wc.cell? ⟨gb473, 0, none⟩ = some (.int .i64 a1_0) := (bC_ BK473.out 0).trans rfl
             have hcz47_1 : wc.cell? ⟨gb473, 1, none⟩ = some (.int .i64 a1_1) := (bC_ BK473.out 1).trans rfl
             have hcz47_2 : wc.cell? ⟨gb473, 2, none⟩ = some (.int .i64 a1_2) := (bC_ BK473.out 2).trans rfl
             have hcz47_3 : wc.cell? ⟨gb473, 3, none⟩ = some (.int .i64 a1_3) := (bC_ BK473.out 3).trans rfl
             have hcz47_4 : wc.cell? ⟨gb473, 4, none⟩ = some (.int .i64 a1_4) := (bC_ BK473.out 4).trans rfl
             have hcz47_5 : wc.cell? ⟨gb473, 5, none⟩ = some (.string a1_5) := (bC_ BK473.out 5).trans rfl
             have hfz47_0 := bZ_ BK473.out 0
             have hfz47_1 := bZ_ BK473.out 1
             have hfz47_2 := bZ_ BK473.out 2
             have hfz47_3 := bZ_ BK473.out 3
             have hfz47_4 := bZ_ BK473.out 4
             have hfz47_5 := bZ_ BK473.out 5
             have hcz48_0 : wc.cell? ⟨gb475, 0, none⟩ = some (.int .i64 ((q24 l0 x17_1).f0)) := (bC_ BK475.out 0).trans rfl
             have hcz48_1 : wc.cell? ⟨gb475, 1, none⟩ = some (.int .i64 ((q24 l0 x17_1).f1)) := (bC_ BK475.out 1).trans rfl
             have hcz48_2 : wc.cell? ⟨gb475, 2, none⟩ = some (.int .i64 ((q24 l0 x17_1).f2)) := (bC_ BK475.out 2).trans rfl
             have hcz48_3 : wc.cell? ⟨gb475, 3, none⟩ = some (.int .i64 ((q24 l0 x17_1).f3)) := (bC_ BK475.out 3).trans rfl
             have hcz48_4 : wc.cell? ⟨gb475, 4, none⟩ = some (.int .i64 ((q24 l0 x17_1).f4)) := (bC_ BK475.out 4).trans rfl
             have hcz48_5 : wc.cell? ⟨gb475, 5, none⟩ = some (.string ((q24 l0 x17_1).f5)) := (bC_ BK475.out 5).trans rfl
             have hfz48_0 := bZ_ BK475.out 0
             have hfz48_1 := bZ_ BK475.out 1
             have hfz48_2 := bZ_ BK475.out 2
             have hfz48_3 := bZ_ BK475.out 3
             have hfz48_4 := bZ_ BK475.out 4
             have hfz48_5 := bZ_ BK475.out 5
             go_wp2_with (first | ((with_reducible refine gC_ (f := 92) rfl ?_); refine goesL_ (some 62) rfl rfl Try.func92 (by kernel_rfl) rfl #[.int .i64 ((q24 l0 x17_1).f0)] rfl (by (try simp only [List.map_toArray, List.map_cons, List.map_nil]); first | done | rfl) ?_; (with_reducible refine (isa_Late.calls kj36 ((q24 l0 x17_1).f0) t481 _ A43.out).mono ?_); rintro e w' ⟨rfl, ⟨nd, rfl⟩⟩; refine ⟨_, rfl, ?_⟩))
             go_roundg kj36
             case measure => have := HK1.out; have := HJ13.out; have := HJ24.out; have := HJ36.out; omega
             case rel => exact ⟨(ji45), (wrap64 (x17_1 + 1)), (by first | rfl | (simp; done) | (simp only [← hji45] <;> (first | rfl | simp)) | (simp [*]; done) | (congr 1; rw [Bool.eq_iff_iff]; simp; done)), (by first | rfl | (simp; done) | (simp [*]; done) | (simp [wrap64]; done) | (congr 1; rw [Bool.eq_iff_iff]; simp; done)), H', ⟨by have := HK1.out; have := HJ13.out; have := HJ24.out; have := HJ36.out; omega⟩, ⟨by (with_reducible repeat (first | refine kN_ ?_ _ | refine kD_ ?_ | refine kA_ ?_ _)); exact BK473.out⟩, ⟨by repeat (first | (with_reducible first | exact HB.out | apply bA_ | apply bN_ | apply b1_ | refine bS_ ?_ GE473.out | refine bS_ ?_ GE475.out) | exact HB.out)⟩⟩
      rw [if_neg c12] at H
      exact absurd H (by simp)
     rw [if_neg c11] at H
     exact absurd H (by simp)
    rw [if_neg c10] at H
    exact absurd H (by simp)
   rw [if_neg c9] at H
   have c9b0 : decide (x17_1 < (l0.length : Int)) = false := decide_eq_false c9
   clear c9
   obtain rfl := Option.some.inj H
   go_wp2
   go_ret
   exact ⟨by first | rfl | (simp [eN_, eS_] <;> rfl) | (simp [*, eN_, eS_] <;> rfl), by repeat (first | (with_reducible first | exact HB.out | apply bA_ | apply bN_ | apply b1_ | refine bS_ ?_ GE473.out) | exact HB.out)⟩
end Go.Proofs.Ytibfkkjkahpobaa.PDag
end
section
-- the texts that this claim needs, out of this session's and its print's (wip/shrink.py)
namespace Go.Proofs.Ytibfkkjkahpobaa.PDag
open Go.RowKit Go.Proofs.YtibfkkjkahpobaaW.PrintWords Go.Proofs.YtibfkkjkahpobaaW.PrintLast Go.Proofs.YtibfkkjkahpobaaW.PrintMore
attribute [local go_sem] max2_int min2_int max_two min_two max_three min_three max_four min_four   -- for this text's walks alone
set_option linter.unusedVariables false
set_option linter.unusedSimpArgs false
end Go.Proofs.Ytibfkkjkahpobaa.PDag
end
section
-- the texts that this claim needs, out of this session's and its print's (wip/shrink.py)
namespace Go.Proofs.Ytibfkkjkahpobaa.PDag
open Go.RowKit Go.Proofs.YtibfkkjkahpobaaW.PrintWords Go.Proofs.YtibfkkjkahpobaaW.PrintLast Go.Proofs.YtibfkkjkahpobaaW.PrintMore
set_option linter.unusedVariables false
set_option linter.unusedSimpArgs false
def step1 (x y : S24) (c n : Int) : Int := if rdsP x y = true then mx n (wrap64 (c + lateOp y.f0)) else n
def step2 (x y : S24) (c n : Int) : Int := if (decide (x.f0 = 33) || (effOp x.f0 && effOp y.f0)) = true then mx n (wrap64 (c + 1)) else n
def step3 (x y : S24) (c n : Int) : Int := if x.f0 = 33 then n else mx (mx n (wrap64 (c - 2))) (wrap64 ((wrap64 ((wrap64 (c + lateOp y.f0)) - 2)) - 1))
def lastUp (l : List S24) (at_ : List Int) (x : S24) : Nat → Nat → Int → Int
  | 0, _, n => n
  | d + 1, i, n => lastUp l at_ x d (i + 1) (step3 x (q24 l i) (rd at_ i) (step2 x (q24 l i) (rd at_ i) (step1 x (q24 l i) (rd at_ i) n)))
def lastOf (l : List S24) (x : S24) (at_ : List Int) : Int := if x.f0 = 0 then 0 else lastUp l at_ x l.length 0 0
theorem own_j3 {k : Nat} (hk : 40 ≤ k) (x y : S24) (hx : 0 ≤ x.f0 ∧ x.f0 ≤ 33) (hy : 0 ≤ y.f0 ∧ y.f0 ≤ 33) (at_ : List Int) (l : List S24) (n c m : Int) (i : Nat) (hi : i ≤ 1000000) :
    dag_Least.j3 (k + 1) at_ n c l m (i : Int) x.f0 x.f1 x.f2 x.f3 x.f4 x.f5 y.f0 y.f1 y.f2 y.f3 y.f4 y.f5 = dag_Least.l0 k at_ (step3 x y c n) l m ((i + 1 : Nat) : Int) x.f0 x.f1 x.f2 x.f3 x.f4 x.f5 := by
  rw [dag_Least.j3, wrap_at (by omega)]
  unfold step3
  by_cases h : x.f0 = 33
  · rw [if_pos h, if_pos h]
  · rw [if_neg h, if_neg h, late_eq (by omega) _ hy.1 hy.2, Option.bind_some]
theorem own_j1 {k : Nat} (hk : 40 ≤ k) (x y : S24) (hx : 0 ≤ x.f0 ∧ x.f0 ≤ 33) (hy : 0 ≤ y.f0 ∧ y.f0 ≤ 33) (at_ : List Int) (l : List S24) (n c m : Int) (i : Nat) (hi : i ≤ 1000000) :
    dag_Least.j1 (k + 1 + 1 + 1) at_ n c l m (i : Int) x.f0 x.f1 x.f2 x.f3 x.f4 x.f5 y.f0 y.f1 y.f2 y.f3 y.f4 y.f5 = dag_Least.l0 k at_ (step3 x y c (step2 x y c n)) l m ((i + 1 : Nat) : Int) x.f0 x.f1 x.f2 x.f3 x.f4 x.f5 := by
  rw [dag_Least.j1]
  unfold step2
  by_cases h : x.f0 = 33
  · rw [if_pos h, dag_Least.j2, if_pos rfl, decide_eq_true h, Bool.true_or, if_pos rfl]
    exact own_j3 hk x y hx hy at_ l _ c m i hi
  · rw [if_neg h, eff_eq (by omega) _ hx.1 hx.2, Option.bind_some, decide_eq_false h, Bool.false_or]
    cases effOp x.f0 with
    | false =>
      rw [if_neg (by decide), dag_Least.j2, if_neg (by decide), Bool.false_and, if_neg (by decide)]
      exact own_j3 hk x y hx hy at_ l _ c m i hi
    | true =>
      rw [if_pos rfl, eff_eq (by omega) _ hy.1 hy.2, Option.bind_some, dag_Least.j2, Bool.true_and]
      cases effOp y.f0 with
      | false =>
        rw [if_neg (by decide), if_neg (by decide)]
        exact own_j3 hk x y hx hy at_ l _ c m i hi
      | true =>
        rw [if_pos rfl, if_pos rfl]
        exact own_j3 hk x y hx hy at_ l _ c m i hi
theorem own_last (l : List S24) (hl : l.length ≤ 1000) (ho : okL l) (x : S24) (hx : 0 ≤ x.f0 ∧ x.f0 ≤ 33) (at_ : List Int) (ha : at_.length = l.length) : ∀ (d k i : Nat) (n : Int), i + d = l.length → 100 + 4 * d ≤ k →
    dag_Least.l0 k at_ n l (l.length : Int) (i : Int) x.f0 x.f1 x.f2 x.f3 x.f4 x.f5 = some (lastUp l at_ x d i n)
  | 0, k, i, n, hi, hk => by
    obtain ⟨k, rfl⟩ : ∃ k', k = k' + 1 := ⟨k - 1, by omega⟩
    rw [dag_Least.l0, if_neg (by omega)]; rfl
  | d + 1, k, i, n, hi, hk => by
    obtain ⟨k, rfl⟩ : ∃ k', k = k' + 1 + 1 + 1 + 1 := ⟨k - 4, by omega⟩
    have hy := okI_op (ho i (by omega))
    rw [dag_Least.l0, if_pos (by omega), if_pos (by omega), if_pos (by omega), if_pos (by omega), reads_eq (by omega) x _ hx hy, Option.bind_some]
    have go : ∀ n', dag_Least.j1 (k + 1 + 1 + 1) at_ n' (rd at_ i) l (l.length : Int) (i : Int) x.f0 x.f1 x.f2 x.f3 x.f4 x.f5 (q24 l i).f0 (q24 l i).f1 (q24 l i).f2 (q24 l i).f3 (q24 l i).f4 (q24 l i).f5 = some (lastUp l at_ x d (i + 1) (step3 x (q24 l i) (rd at_ i) (step2 x (q24 l i) (rd at_ i) n'))) := fun n' => by
      rw [own_j1 (by omega) x _ hx hy at_ l n' _ _ i (by omega)]
      exact own_last l hl ho x hx at_ ha d k (i + 1) _ (by omega) (by omega)
    show _ = some (lastUp l at_ x d (i + 1) (step3 x (q24 l i) (rd at_ i) (step2 x (q24 l i) (rd at_ i) (step1 x (q24 l i) (rd at_ i) n))))
    unfold step1
    cases rdsP x (q24 l i) with
    | false => rw [if_neg (by decide), if_neg (by decide)]; exact go n
    | true => rw [if_pos rfl, if_pos rfl, late_eq (by omega) _ hy.1 hy.2, Option.bind_some]; exact go _
theorem least_eq {k : Nat} (l : List S24) (hl : l.length ≤ 1000) (ho : okL l) (x : S24) (hx : 0 ≤ x.f0 ∧ x.f0 ≤ 33) (at_ : List Int) (ha : at_.length = l.length) (hk : 5000 ≤ k) : dag_Least.f k l x.f0 x.f1 x.f2 x.f3 x.f4 x.f5 at_ = some (lastOf l x at_) := by
  unfold dag_Least.f lastOf
  by_cases h : x.f0 = 0
  · rw [if_pos h, if_pos h]
  · rw [if_neg h, if_neg h]
    exact own_last l hl ho x hx at_ ha l.length k 0 0 (by omega) (by omega)
end Go.Proofs.Ytibfkkjkahpobaa.PDag
end
