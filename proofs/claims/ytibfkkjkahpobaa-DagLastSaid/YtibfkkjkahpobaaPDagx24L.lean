-- the texts that this claim needs, out of this session's and its print's (wip/shrink.py)
import Derived.Test.YtibfkkjkahpobaaPDagx0L
import Derived.Test.YtibfkkjkahpobaaPDagx7L
import Derived.Test.YtibfkkjkahpobaaReadsL
namespace Go.Proofs.Ytibfkkjkahpobaa.PDag
open Go.RowKit Go.Proofs.YtibfkkjkahpobaaW.PrintWords Go.Proofs.YtibfkkjkahpobaaW.PrintLast Go.Proofs.YtibfkkjkahpobaaW.PrintMore
attribute [local go_sem] max2_int min2_int max_two min_two max_three min_three max_four min_four   -- for this text's walks alone
set_option linter.unusedVariables false
set_option linter.unusedSimpArgs false
mutual
def dag_Least.l0 : Nat → List Int → Int → List (S24) → Int → Int → Int → Int → Int → Int → Int → ByteArray → Option (Int)
  | 0, _, _, _, _, _, _, _, _, _, _, _ => none
  | k + 1, x2, x7, x15, x16, x17, x550a, x550b, x550c, x550d, x550e, x550f => if x17 < x16 then (if 0 ≤ x17 then (if x17 < (x15.length : Int) then (if x17 < (x2.length : Int) then ((dag_reads.f k x550a x550b x550c x550d x550e x550f ((q24 x15 x17).f0) ((q24 x15 x17).f1) ((q24 x15 x17).f2) ((q24 x15 x17).f3) ((q24 x15 x17).f4) ((q24 x15 x17).f5)).bind fun t553 => (if t553 = true then ((isa_Late.f k ((q24 x15 x17).f0)).bind fun t554 => (dag_Least.j1 k x2 (mx x7 (wrap64 ((rd x2 x17) + t554))) (rd x2 x17) x15 x16 x17 x550a x550b x550c x550d x550e x550f ((q24 x15 x17).f0) ((q24 x15 x17).f1) ((q24 x15 x17).f2) ((q24 x15 x17).f3) ((q24 x15 x17).f4) ((q24 x15 x17).f5))) else (dag_Least.j1 k x2 x7 (rd x2 x17) x15 x16 x17 x550a x550b x550c x550d x550e x550f ((q24 x15 x17).f0) ((q24 x15 x17).f1) ((q24 x15 x17).f2) ((q24 x15 x17).f3) ((q24 x15 x17).f4) ((q24 x15 x17).f5)))) else (none)) else (none)) else (none)) else (some x7)
def dag_Least.j1 : Nat → List Int → Int → Int → List (S24) → Int → Int → Int → Int → Int → Int → Int → ByteArray → Int → Int → Int → Int → Int → ByteArray → Option (Int)
  | 0, _, _, _, _, _, _, _, _, _, _, _, _, _, _, _, _, _, _ => none
  | k + 1, x2, x7, x10, x15, x16, x17, x550a, x550b, x550c, x550d, x550e, x550f, x552a, x552b, x552c, x552d, x552e, x552f => if x550a = 33 then (dag_Least.j2 k x2 x7 x10 x15 x16 x17 true x550a x550b x550c x550d x550e x550f x552a x552b x552c x552d x552e x552f) else ((isa_Effect.f k x550a).bind fun t555 => (if t555 = true then ((isa_Effect.f k x552a).bind fun t556 => (dag_Least.j2 k x2 x7 x10 x15 x16 x17 t556 x550a x550b x550c x550d x550e x550f x552a x552b x552c x552d x552e x552f)) else (dag_Least.j2 k x2 x7 x10 x15 x16 x17 false x550a x550b x550c x550d x550e x550f x552a x552b x552c x552d x552e x552f)))
def dag_Least.j2 : Nat → List Int → Int → Int → List (S24) → Int → Int → Bool → Int → Int → Int → Int → Int → ByteArray → Int → Int → Int → Int → Int → ByteArray → Option (Int)
  | 0, _, _, _, _, _, _, _, _, _, _, _, _, _, _, _, _, _, _, _ => none
  | k + 1, x2, x7, x10, x15, x16, x17, x48, x550a, x550b, x550c, x550d, x550e, x550f, x552a, x552b, x552c, x552d, x552e, x552f => if x48 = true then (dag_Least.j3 k x2 (mx x7 (wrap64 (x10 + 1))) x10 x15 x16 x17 x550a x550b x550c x550d x550e x550f x552a x552b x552c x552d x552e x552f) else (dag_Least.j3 k x2 x7 x10 x15 x16 x17 x550a x550b x550c x550d x550e x550f x552a x552b x552c x552d x552e x552f)
def dag_Least.j3 : Nat → List Int → Int → Int → List (S24) → Int → Int → Int → Int → Int → Int → Int → ByteArray → Int → Int → Int → Int → Int → ByteArray → Option (Int)
  | 0, _, _, _, _, _, _, _, _, _, _, _, _, _, _, _, _, _, _ => none
  | k + 1, x2, x7, x10, x15, x16, x17, x550a, x550b, x550c, x550d, x550e, x550f, x552a, x552b, x552c, x552d, x552e, x552f => if x550a = 33 then (dag_Least.l0 k x2 x7 x15 x16 (wrap64 (x17 + 1)) x550a x550b x550c x550d x550e x550f) else ((isa_Late.f k x552a).bind fun t557 => (dag_Least.l0 k x2 (mx (mx x7 (wrap64 (x10 - 2))) (wrap64 ((wrap64 ((wrap64 (x10 + t557)) - 2)) - 1))) x15 x16 (wrap64 (x17 + 1)) x550a x550b x550c x550d x550e x550f))
end
def dag_Least.f (k : Nat) (l0 : List (S24)) (a1_0 : Int) (a1_1 : Int) (a1_2 : Int) (a1_3 : Int) (a1_4 : Int) (a1_5 : ByteArray) (l2 : List Int) : Option (Int) := if a1_0 = 0 then (some 0) else (dag_Least.l0 k l2 0 l0 (l0.length : Int) 0 a1_0 a1_1 a1_2 a1_3 a1_4 a1_5)
set_option maxHeartbeats 8000000 in
set_option maxRecDepth 100000 in
theorem dag_Least.calls (k : Nat) (A0 : Option Addr) (c0 : Nat) (l0 : List (S24)) (a1_0 : Int) (a1_1 : Int) (a1_2 : Int) (a1_3 : Int) (a1_4 : Int) (a1_5 : ByteArray) (A2 : Option Addr) (c2 : Nat) (l2 : List Int) (r : Int) (w : World) (hr0 : Kd.C k24 w A0 l0.length l0) (hc0 : l0.length ≤ c0) (hr2 : Kd.C (Kd.int .i64) w A2 l2.length l2) (hc2 : l2.length ≤ c2) (h : dag_Least.f k l0 a1_0 a1_1 a1_2 a1_3 a1_4 a1_5 l2 = some r) :
    Calls Try.prog 65 #[.slice A0 l0.length c0, .agg #[.int .i64 a1_0, .int .i64 a1_1, .int .i64 a1_2, .int .i64 a1_3, .int .i64 a1_4, .string a1_5], .slice A2 l2.length c2] w fun e w' => e = .returned (.int .i64 r) ∧ Below w.heap.size w w' := by
 have hu24 := Try.underlying24
 have HR0 := As_.mk hr0
 have HC0 := As_.mk hc0
 clear hr0 hc0
 have HR2 := As_.mk hr2
 have HC2 := As_.mk hc2
 clear hr2 hc2
 have HB := As_.mk (Below.refl w.heap.size w)
 have H : (if a1_0 = 0 then (some 0) else (dag_Least.l0 k l2 0 l0 (l0.length : Int) 0 a1_0 a1_1 a1_2 a1_3 a1_4 a1_5)) = some r := h
 clear h
 by_cases c4 : a1_0 = 0
 ·rw [if_pos c4] at H
  have c4b0 : (a1_0 == 0) = true := beq_iff_eq.mpr c4
  have c4b1 : (a1_0 != 0) = false := bne_eq_false_iff_eq.mpr c4
  clear c4
  obtain rfl := Option.some.inj H
  go_enter Try.func65, Try.ntmps65
  go_wp2_with (first | ((with_reducible refine gate_dst (N := 4) rfl ?_); refine box_event ?hg (N := 4) ?hd (cs := #[.int .i64 a1_0, .int .i64 a1_1, .int .i64 a1_2, .int .i64 a1_3, .int .i64 a1_4, .string a1_5]) (t := 24) ?hr ?_; (case hd => rfl); (case hg => rfl); (case hr => first | (go_simp; done) | (go_simp; rfl)); intro gb549 hg w5 hbox hb; have n0_ := As_.mk (bT_ (by repeat (first | (with_reducible first | exact HB.out | apply bA_ | apply bN_ | apply b1_) | exact HB.out)) hb); have n1_ := As_.mk (hbox); have n2_ := As_.mk ((by rw [hg]; exact (bY_ (by repeat (first | (with_reducible first | exact HB.out | apply bA_ | apply bN_ | apply b1_) | exact HB.out))) : w.heap.size ≤ gb549)); have n3_ := As_.mk ((by rw [hg]; exact (bY_ (by repeat (first | (with_reducible first | exact HB.out | apply bA_ | apply bN_ | apply b1_) | exact HB.out))) : w.heap.size ≤ gb549)); clear HB; have HB := n0_; have BK549 := n1_; have GW549 := n2_; have GE549 := n3_; clear n0_ n1_ n2_ n3_; clear hb hbox hg; have hcz6_0 : w5.cell? ⟨gb549, 0, none⟩ = some (.int .i64 a1_0) := (bC_ BK549.out 0).trans rfl; have hcz6_1 : w5.cell? ⟨gb549, 1, none⟩ = some (.int .i64 a1_1) := (bC_ BK549.out 1).trans rfl; have hcz6_2 : w5.cell? ⟨gb549, 2, none⟩ = some (.int .i64 a1_2) := (bC_ BK549.out 2).trans rfl; have hcz6_3 : w5.cell? ⟨gb549, 3, none⟩ = some (.int .i64 a1_3) := (bC_ BK549.out 3).trans rfl; have hcz6_4 : w5.cell? ⟨gb549, 4, none⟩ = some (.int .i64 a1_4) := (bC_ BK549.out 4).trans rfl; have hcz6_5 : w5.cell? ⟨gb549, 5, none⟩ = some (.string a1_5) := (bC_ BK549.out 5).trans rfl; have hfz6_0 := bZ_ BK549.out 0; have hfz6_1 := bZ_ BK549.out 1; have hfz6_2 := bZ_ BK549.out 2; have hfz6_3 := bZ_ BK549.out 3; have hfz6_4 := bZ_ BK549.out 4; have hfz6_5 := bZ_ BK549.out 5))
  go_ret
  exact ⟨by first | rfl | (simp [eN_, eS_] <;> rfl) | (simp [*, eN_, eS_] <;> rfl), by repeat (first | (with_reducible first | exact HB.out | apply bA_ | apply bN_ | apply b1_ | refine bS_ ?_ GE549.out) | exact HB.out)⟩
 rw [if_neg c4] at H
 have c4b0 : (a1_0 == 0) = false := beq_eq_false_iff_ne.mpr c4
 have c4b1 : (a1_0 != 0) = true := bne_iff_ne.mpr c4
 have H' := As_.mk H
 clear H
 go_enter Try.func65, Try.ntmps65
 go_wp2_with (first | ((with_reducible refine gate_dst (N := 4) rfl ?_); refine box_event ?hg (N := 4) ?hd (cs := #[.int .i64 a1_0, .int .i64 a1_1, .int .i64 a1_2, .int .i64 a1_3, .int .i64 a1_4, .string a1_5]) (t := 24) ?hr ?_; (case hd => rfl); (case hg => rfl); (case hr => first | (go_simp; done) | (go_simp; rfl)); intro gb549 hg w7 hbox hb; have n0_ := As_.mk (bT_ (by repeat (first | (with_reducible first | exact HB.out | apply bA_ | apply bN_ | apply b1_) | exact HB.out)) hb); have n1_ := As_.mk (hbox); have n2_ := As_.mk ((by rw [hg]; exact (bY_ (by repeat (first | (with_reducible first | exact HB.out | apply bA_ | apply bN_ | apply b1_) | exact HB.out))) : w.heap.size ≤ gb549)); have n3_ := As_.mk ((by rw [hg]; exact (bY_ (by repeat (first | (with_reducible first | exact HB.out | apply bA_ | apply bN_ | apply b1_) | exact HB.out))) : w.heap.size ≤ gb549)); clear HB; have HB := n0_; have BK549 := n1_; have GW549 := n2_; have GE549 := n3_; clear n0_ n1_ n2_ n3_; clear hb hbox hg; have hcz8_0 : w7.cell? ⟨gb549, 0, none⟩ = some (.int .i64 a1_0) := (bC_ BK549.out 0).trans rfl; have hcz8_1 : w7.cell? ⟨gb549, 1, none⟩ = some (.int .i64 a1_1) := (bC_ BK549.out 1).trans rfl; have hcz8_2 : w7.cell? ⟨gb549, 2, none⟩ = some (.int .i64 a1_2) := (bC_ BK549.out 2).trans rfl; have hcz8_3 : w7.cell? ⟨gb549, 3, none⟩ = some (.int .i64 a1_3) := (bC_ BK549.out 3).trans rfl; have hcz8_4 : w7.cell? ⟨gb549, 4, none⟩ = some (.int .i64 a1_4) := (bC_ BK549.out 4).trans rfl; have hcz8_5 : w7.cell? ⟨gb549, 5, none⟩ = some (.string a1_5) := (bC_ BK549.out 5).trans rfl; have hfz8_0 := bZ_ BK549.out 0; have hfz8_1 := bZ_ BK549.out 1; have hfz8_2 := bZ_ BK549.out 2; have hfz8_3 := bZ_ BK549.out 3; have hfz8_4 := bZ_ BK549.out 4; have hfz8_5 := bZ_ BK549.out 5))
 go_loopg [7, 17] k (fun kq v7 v17 w' => ∃ (x7_1 : Int) (x17_1 : Int), v7 = .int .i64 x7_1 ∧ v17 = .int .i64 x17_1 ∧ As_ (dag_Least.l0 kq l2 x7_1 l0 (l0.length : Int) x17_1 a1_0 a1_1 a1_2 a1_3 a1_4 a1_5 = some r) ∧ As_ (kq ≤ k) ∧ As_ (w'.heap[gb549]? = some (.cells #[.int .i64 a1_0, .int .i64 a1_1, .int .i64 a1_2, .int .i64 a1_3, .int .i64 a1_4, .string a1_5] 24 (0, 0))) ∧ As_ (Below w.heap.size w w'))
 case atStart => exact ⟨(0), (0), (by first | rfl | (simp; done) | (simp [*]; done) | (simp [wrap64]; done) | (congr 1; rw [Bool.eq_iff_iff]; simp; done)), (by first | rfl | (simp; done) | (simp [*]; done) | (simp [wrap64]; done) | (congr 1; rw [Bool.eq_iff_iff]; simp; done)), H', ⟨Nat.le_refl _⟩, ⟨by (with_reducible repeat (first | refine kN_ ?_ _ | refine kD_ ?_ | refine kA_ ?_ _)); exact BK549.out⟩, ⟨by repeat (first | (with_reducible first | exact HB.out | apply bA_ | apply bN_ | apply b1_ | refine bS_ ?_ GE549.out) | exact HB.out)⟩⟩
 case round =>
  clear H'
  obtain ⟨x7_1, x17_1, rfl, rfl, HA, HK1, BK549, HB⟩ := hrel
  cases gk with
  | zero => exact absurd HA.out (by simp [dag_Least.l0])
  | succ k1 =>
   have H := HA.out
   clear HA
   simp only [dag_Least.l0] at H
   by_cases c9 : x17_1 < (l0.length : Int)
   ·rw [if_pos c9] at H
    have c9b0 : decide (x17_1 < (l0.length : Int)) = true := decide_eq_true c9
    clear c9
    by_cases c10 : 0 ≤ x17_1
    ·rw [if_pos c10] at H
     have c10b0 : decide (0 ≤ x17_1) = true := decide_eq_true c10
     clear c10
     by_cases c11 : x17_1 < (l0.length : Int)
     ·rw [if_pos c11] at H
      have c11b0 : decide (x17_1 < (l0.length : Int)) = true := decide_eq_true c11
      clear c11
      by_cases c12 : x17_1 < (l2.length : Int)
      ·rw [if_pos c12] at H
       have c12b0 : decide (x17_1 < (l2.length : Int)) = true := decide_eq_true c12
       clear c12
       replace H := Option.bind_eq_some_iff.mp H
       obtain ⟨t553, A130, H⟩ := H
       replace H : (if t553 = true then ((isa_Late.f k1 ((q24 l0 x17_1).f0)).bind fun t554 => (dag_Least.j1 k1 l2 (mx x7_1 (wrap64 ((rd l2 x17_1) + t554))) (rd l2 x17_1) l0 (l0.length : Int) x17_1 a1_0 a1_1 a1_2 a1_3 a1_4 a1_5 ((q24 l0 x17_1).f0) ((q24 l0 x17_1).f1) ((q24 l0 x17_1).f2) ((q24 l0 x17_1).f3) ((q24 l0 x17_1).f4) ((q24 l0 x17_1).f5))) else (dag_Least.j1 k1 l2 x7_1 (rd l2 x17_1) l0 (l0.length : Int) x17_1 a1_0 a1_1 a1_2 a1_3 a1_4 a1_5 ((q24 l0 x17_1).f0) ((q24 l0 x17_1).f1) ((q24 l0 x17_1).f2) ((q24 l0 x17_1).f3) ((q24 l0 x17_1).f4) ((q24 l0 x17_1).f5))) = some r := H
       have A13 := As_.mk A130
       clear A130
       have HC14 := As_.mk H
       clear H
       have p550 : 0 ≤ (x17_1 : Int) := of_decide_eq_true (by assumption)
       have q550 : x17_1 < (l0.length : Int) := of_decide_eq_true (by assumption)
       obtain ⟨ad550, e550, hx550_0, hx550_1, hx550_2, hx550_3, hx550_4, hx550_5⟩ := at_T24 HR0.out x17_1 p550 q550
       cases e550
       replace hx550_0 := (HB.out.cell (World.block_lt_of_cell? w _ hx550_0)).trans hx550_0
       replace hx550_1 := (HB.out.cell (World.block_lt_of_cell? w _ hx550_1)).trans hx550_1
       replace hx550_2 := (HB.out.cell (World.block_lt_of_cell? w _ hx550_2)).trans hx550_2
       replace hx550_3 := (HB.out.cell (World.block_lt_of_cell? w _ hx550_3)).trans hx550_3
       replace hx550_4 := (HB.out.cell (World.block_lt_of_cell? w _ hx550_4)).trans hx550_4
       replace hx550_5 := (HB.out.cell (World.block_lt_of_cell? w _ hx550_5)).trans hx550_5
       replace p550 := eq_true p550
       replace q550 := eq_true q550
       go_upto_if 28 with (first | ((with_reducible refine gate_dst (N := 9) rfl ?_); refine box_event ?hg (N := 9) ?hd (cs := #[.int .i64 0, .int .i64 0, .int .i64 0, .int .i64 0, .int .i64 0, .string (⟨#[]⟩ : ByteArray)]) (t := 24) ?hr ?_; (case hd => rfl); (case hg => rfl); (case hr => first | (go_simp; done) | (go_simp; rfl)); intro gb551 hg w15 hbox hb; have n0_ := As_.mk (kB_ (g := gb549) (o := .cells #[.int .i64 a1_0, .int .i64 a1_1, .int .i64 a1_2, .int .i64 a1_3, .int .i64 a1_4, .string a1_5] 24 (0, 0)) (by (with_reducible repeat (first | refine kN_ ?_ _ | refine kD_ ?_ | refine kA_ ?_ _)); exact BK549.out) hb); have n1_ := As_.mk (bT_ (by repeat (first | (with_reducible first | exact HB.out | apply bA_ | apply bN_ | apply b1_ | refine bS_ ?_ GE549.out) | exact HB.out)) hb); have n2_ := As_.mk (hbox); have n3_ := As_.mk ((by rw [hg]; exact (bY_ (by repeat (first | (with_reducible first | exact HB.out | apply bA_ | apply bN_ | apply b1_ | refine bS_ ?_ GE549.out) | exact HB.out))) : w.heap.size ≤ gb551)); have n4_ := As_.mk ((by rw [hg]; exact (bY_ (by repeat (first | (with_reducible first | exact HB.out | apply bA_ | apply bN_ | apply b1_ | refine bS_ ?_ GE549.out) | exact HB.out))) : w.heap.size ≤ gb551)); have n5_ := As_.mk ((by rw [hg]; exact Nat.ne_of_lt (blk_lt (g := gb549) (o := .cells #[.int .i64 a1_0, .int .i64 a1_1, .int .i64 a1_2, .int .i64 a1_3, .int .i64 a1_4, .string a1_5] 24 (0, 0)) (by (with_reducible repeat (first | refine kN_ ?_ _ | refine kD_ ?_ | refine kA_ ?_ _)); exact BK549.out)) : gb549 ≠ gb551)); have n6_ := As_.mk ((by rw [hg]; exact Nat.ne_of_gt (blk_lt (g := gb549) (o := .cells #[.int .i64 a1_0, .int .i64 a1_1, .int .i64 a1_2, .int .i64 a1_3, .int .i64 a1_4, .string a1_5] 24 (0, 0)) (by (with_reducible repeat (first | refine kN_ ?_ _ | refine kD_ ?_ | refine kA_ ?_ _)); exact BK549.out)) : gb551 ≠ gb549)); clear BK549; clear HB; have BK549 := n0_; have HB := n1_; have BK551 := n2_; have GW551 := n3_; have GE551 := n4_; have NB549_551 := n5_; have NB551_549 := n6_; clear n0_ n1_ n2_ n3_ n4_ n5_ n6_; clear hb hbox hg; have hnb16 := NB551_549.out; have hnc16 := NB549_551.out; have hcz17_0 : w15.cell? ⟨gb551, 0, none⟩ = some (.int .i64 0) := (bC_ BK551.out 0).trans rfl; have hcz17_1 : w15.cell? ⟨gb551, 1, none⟩ = some (.int .i64 0) := (bC_ BK551.out 1).trans rfl; have hcz17_2 : w15.cell? ⟨gb551, 2, none⟩ = some (.int .i64 0) := (bC_ BK551.out 2).trans rfl; have hcz17_3 : w15.cell? ⟨gb551, 3, none⟩ = some (.int .i64 0) := (bC_ BK551.out 3).trans rfl; have hcz17_4 : w15.cell? ⟨gb551, 4, none⟩ = some (.int .i64 0) := (bC_ BK551.out 4).trans rfl; have hcz17_5 : w15.cell? ⟨gb551, 5, none⟩ = some (.string (⟨#[]⟩ : ByteArray)) := (bC_ BK551.out 5).trans rfl; have hfz17_0 := bZ_ BK551.out 0; have hfz17_1 := bZ_ BK551.out 1; have hfz17_2 := bZ_ BK551.out 2; have hfz17_3 := bZ_ BK551.out 3; have hfz17_4 := bZ_ BK551.out 4; have hfz17_5 := bZ_ BK551.out 5; have p552 : 0 ≤ (x17_1 : Int) := of_decide_eq_true (by assumption); have q552 : x17_1 < (l2.length : Int) := of_decide_eq_true (by assumption); obtain ⟨ad552, e552, hx552_0⟩ := Kd.at_int HR2.out x17_1 p552 q552; cases e552; have hn552_0 : ad552.block ≠ gb551 := Nat.ne_of_lt (Nat.lt_of_lt_of_le (by have := World.block_lt_of_cell? _ _ hx552_0; first | rwa [add_block] at this | exact this) GW551.out); have hn552_1 : ad552.block ≠ gb551 := Nat.ne_of_lt (Nat.lt_of_lt_of_le (by have := World.block_lt_of_cell? _ _ hx552_0; first | rwa [add_block] at this | exact this) GW551.out); have hn552_2 : ad552.block ≠ gb551 := Nat.ne_of_lt (Nat.lt_of_lt_of_le (by have := World.block_lt_of_cell? _ _ hx552_0; first | rwa [add_block] at this | exact this) GW551.out); have hn552_3 : ad552.block ≠ gb551 := Nat.ne_of_lt (Nat.lt_of_lt_of_le (by have := World.block_lt_of_cell? _ _ hx552_0; first | rwa [add_block] at this | exact this) GW551.out); have hn552_4 : ad552.block ≠ gb551 := Nat.ne_of_lt (Nat.lt_of_lt_of_le (by have := World.block_lt_of_cell? _ _ hx552_0; first | rwa [add_block] at this | exact this) GW551.out); have hn552_5 : ad552.block ≠ gb551 := Nat.ne_of_lt (Nat.lt_of_lt_of_le (by have := World.block_lt_of_cell? _ _ hx552_0; first | rwa [add_block] at this | exact this) GW551.out); replace hx552_0 := (HB.out.cell (World.block_lt_of_cell? w _ hx552_0)).trans hx552_0; replace hx552_0 := (cell_far (p := ⟨gb551, 0, none⟩) (by first | (rw [add_block]; exact hn552_0) | (show (Addr.add _ _).block ≠ _; rw [add_block]; exact hn552_0) | exact hn552_0) (.int .i64 ((q24 l0 x17_1).f0))).trans hx552_0; replace hx552_0 := (cell_far (p := ⟨gb551, 1, none⟩) (by first | (rw [add_block]; exact hn552_1) | (show (Addr.add _ _).block ≠ _; rw [add_block]; exact hn552_1) | exact hn552_1) (.int .i64 ((q24 l0 x17_1).f1))).trans hx552_0; replace hx552_0 := (cell_far (p := ⟨gb551, 2, none⟩) (by first | (rw [add_block]; exact hn552_2) | (show (Addr.add _ _).block ≠ _; rw [add_block]; exact hn552_2) | exact hn552_2) (.int .i64 ((q24 l0 x17_1).f2))).trans hx552_0; replace hx552_0 := (cell_far (p := ⟨gb551, 3, none⟩) (by first | (rw [add_block]; exact hn552_3) | (show (Addr.add _ _).block ≠ _; rw [add_block]; exact hn552_3) | exact hn552_3) (.int .i64 ((q24 l0 x17_1).f3))).trans hx552_0; replace hx552_0 := (cell_far (p := ⟨gb551, 4, none⟩) (by first | (rw [add_block]; exact hn552_4) | (show (Addr.add _ _).block ≠ _; rw [add_block]; exact hn552_4) | exact hn552_4) (.int .i64 ((q24 l0 x17_1).f4))).trans hx552_0; replace hx552_0 := (cell_far (p := ⟨gb551, 5, none⟩) (by first | (rw [add_block]; exact hn552_5) | (show (Addr.add _ _).block ≠ _; rw [add_block]; exact hn552_5) | exact hn552_5) (.string ((q24 l0 x17_1).f5))).trans hx552_0; clear hn552_0; clear hn552_1; clear hn552_2; clear hn552_3; clear hn552_4; clear hn552_5; replace p552 := eq_true p552; replace q552 := eq_true q552; have hcz18_0 : w15.cell? ⟨gb549, 0, none⟩ = some (.int .i64 a1_0) := (bC_ BK549.out 0).trans rfl; have hcz18_1 : w15.cell? ⟨gb549, 1, none⟩ = some (.int .i64 a1_1) := (bC_ BK549.out 1).trans rfl; have hcz18_2 : w15.cell? ⟨gb549, 2, none⟩ = some (.int .i64 a1_2) := (bC_ BK549.out 2).trans rfl; have hcz18_3 : w15.cell? ⟨gb549, 3, none⟩ = some (.int .i64 a1_3) := (bC_ BK549.out 3).trans rfl; have hcz18_4 : w15.cell? ⟨gb549, 4, none⟩ = some (.int .i64 a1_4) := (bC_ BK549.out 4).trans rfl; have hcz18_5 : w15.cell? ⟨gb549, 5, none⟩ = some (.string a1_5) := (bC_ BK549.out 5).trans rfl; have hfz18_0 := bZ_ BK549.out 0; have hfz18_1 := bZ_ BK549.out 1; have hfz18_2 := bZ_ BK549.out 2; have hfz18_3 := bZ_ BK549.out 3; have hfz18_4 := bZ_ BK549.out 4; have hfz18_5 := bZ_ BK549.out 5) | ((with_reducible refine gC_ (f := 103) rfl ?_); refine goesL_ (some 28) rfl rfl Try.func103 (by kernel_rfl) rfl #[.agg #[.int .i64 a1_0, .int .i64 a1_1, .int .i64 a1_2, .int .i64 a1_3, .int .i64 a1_4, .string a1_5], .agg #[.int .i64 ((q24 l0 x17_1).f0), .int .i64 ((q24 l0 x17_1).f1), .int .i64 ((q24 l0 x17_1).f2), .int .i64 ((q24 l0 x17_1).f3), .int .i64 ((q24 l0 x17_1).f4), .string ((q24 l0 x17_1).f5)]] rfl (by (try simp only [List.map_toArray, List.map_cons, List.map_nil]); first | done | rfl) ?_; (with_reducible refine (dag_reads.calls k1 a1_0 a1_1 a1_2 a1_3 a1_4 a1_5 ((q24 l0 x17_1).f0) ((q24 l0 x17_1).f1) ((q24 l0 x17_1).f2) ((q24 l0 x17_1).f3) ((q24 l0 x17_1).f4) ((q24 l0 x17_1).f5) t553 _ A13.out).mono ?_); rintro e w19 ⟨rfl, hb⟩; refine ⟨_, rfl, ?_⟩; have n0_ := As_.mk (kB_ (g := gb549) (o := .cells #[.int .i64 a1_0, .int .i64 a1_1, .int .i64 a1_2, .int .i64 a1_3, .int .i64 a1_4, .string a1_5] 24 (0, 0)) (by (with_reducible repeat (first | refine kN_ ?_ _ | refine kD_ ?_ | refine kA_ ?_ _)); refine blk_far ?_ NB549_551.out _; (with_reducible repeat (first | refine kN_ ?_ _ | refine kD_ ?_ | refine kA_ ?_ _)); refine blk_far ?_ NB549_551.out _; (with_reducible repeat (first | refine kN_ ?_ _ | refine kD_ ?_ | refine kA_ ?_ _)); refine blk_far ?_ NB549_551.out _; (with_reducible repeat (first | refine kN_ ?_ _ | refine kD_ ?_ | refine kA_ ?_ _)); refine blk_far ?_ NB549_551.out _; (with_reducible repeat (first | refine kN_ ?_ _ | refine kD_ ?_ | refine kA_ ?_ _)); refine blk_far ?_ NB549_551.out _; (with_reducible repeat (first | refine kN_ ?_ _ | refine kD_ ?_ | refine kA_ ?_ _)); refine blk_far ?_ NB549_551.out _; (with_reducible repeat (first | refine kN_ ?_ _ | refine kD_ ?_ | refine kA_ ?_ _)); exact BK549.out) hb); have n1_ := As_.mk (kB_ (g := gb551) (o := .cells #[.int .i64 ((q24 l0 x17_1).f0), .int .i64 ((q24 l0 x17_1).f1), .int .i64 ((q24 l0 x17_1).f2), .int .i64 ((q24 l0 x17_1).f3), .int .i64 ((q24 l0 x17_1).f4), .string ((q24 l0 x17_1).f5)] 24 (0, 0)) (by (with_reducible repeat (first | refine kN_ ?_ _ | refine kD_ ?_ | refine kA_ ?_ _)); refine blk_put (cs := #[.int .i64 ((q24 l0 x17_1).f0), .int .i64 ((q24 l0 x17_1).f1), .int .i64 ((q24 l0 x17_1).f2), .int .i64 ((q24 l0 x17_1).f3), .int .i64 ((q24 l0 x17_1).f4), .string (⟨#[]⟩ : ByteArray)]) ?_ 5 _ rfl; (with_reducible repeat (first | refine kN_ ?_ _ | refine kD_ ?_ | refine kA_ ?_ _)); refine blk_put (cs := #[.int .i64 ((q24 l0 x17_1).f0), .int .i64 ((q24 l0 x17_1).f1), .int .i64 ((q24 l0 x17_1).f2), .int .i64 ((q24 l0 x17_1).f3), .int .i64 0, .string (⟨#[]⟩ : ByteArray)]) ?_ 4 _ rfl; (with_reducible repeat (first | refine kN_ ?_ _ | refine kD_ ?_ | refine kA_ ?_ _)); refine blk_put (cs := #[.int .i64 ((q24 l0 x17_1).f0), .int .i64 ((q24 l0 x17_1).f1), .int .i64 ((q24 l0 x17_1).f2), .int .i64 0, .int .i64 0, .string (⟨#[]⟩ : ByteArray)]) ?_ 3 _ rfl; (with_reducible repeat (first | refine kN_ ?_ _ | refine kD_ ?_ | refine kA_ ?_ _)); refine blk_put (cs := #[.int .i64 ((q24 l0 x17_1).f0), .int .i64 ((q24 l0 x17_1).f1), .int .i64 0, .int .i64 0, .int .i64 0, .string (⟨#[]⟩ : ByteArray)]) ?_ 2 _ rfl; (with_reducible repeat (first | refine kN_ ?_ _ | refine kD_ ?_ | refine kA_ ?_ _)); refine blk_put (cs := #[.int .i64 ((q24 l0 x17_1).f0), .int .i64 0, .int .i64 0, .int .i64 0, .int .i64 0, .string (⟨#[]⟩ : ByteArray)]) ?_ 1 _ rfl; (with_reducible repeat (first | refine kN_ ?_ _ | refine kD_ ?_ | refine kA_ ?_ _)); refine blk_put (cs := #[.int .i64 0, .int .i64 0, .int .i64 0, .int .i64 0, .int .i64 0, .string (⟨#[]⟩ : ByteArray)]) ?_ 0 _ rfl; (with_reducible repeat (first | refine kN_ ?_ _ | refine kD_ ?_ | refine kA_ ?_ _)); exact BK551.out) hb); have n2_ := As_.mk (bT_ (by repeat (first | (with_reducible first | exact HB.out | apply bA_ | apply bN_ | apply b1_ | refine bS_ ?_ GE549.out | refine bS_ ?_ GE551.out) | exact HB.out)) hb); clear BK549; clear BK551; clear HB; have BK549 := n0_; have BK551 := n1_; have HB := n2_; clear n0_ n1_ n2_))
       (try simp only [Act.put, List.setIfInBounds_toArray, List.set_cons_zero, List.set_cons_succ])
       go_cut [7] (fun v7 wc => ∃ (kq : Nat) (x7_13 : Int), v7 = .int .i64 x7_13 ∧ As_ (dag_Least.j1 kq l2 x7_13 (rd l2 x17_1) l0 (l0.length : Int) x17_1 a1_0 a1_1 a1_2 a1_3 a1_4 a1_5 ((q24 l0 x17_1).f0) ((q24 l0 x17_1).f1) ((q24 l0 x17_1).f2) ((q24 l0 x17_1).f3) ((q24 l0 x17_1).f4) ((q24 l0 x17_1).f5) = some r) ∧ As_ (kq ≤ k1) ∧ As_ (wc.heap[gb549]? = some (.cells #[.int .i64 a1_0, .int .i64 a1_1, .int .i64 a1_2, .int .i64 a1_3, .int .i64 a1_4, .string a1_5] 24 (0, 0))) ∧ As_ (wc.heap[gb551]? = some (.cells #[.int .i64 ((q24 l0 x17_1).f0), .int .i64 ((q24 l0 x17_1).f1), .int .i64 ((q24 l0 x17_1).f2), .int .i64 ((q24 l0 x17_1).f3), .int .i64 ((q24 l0 x17_1).f4), .string ((q24 l0 x17_1).f5)] 24 (0, 0))) ∧ As_ (Below w.heap.size w wc))
       case first =>
        have H := HC14.out
        clear HC14
        by_cases c20 : t553 = true
        ·subst c20
         have H1 : ((isa_Late.f k1 ((q24 l0 x17_1).f0)).bind fun t554 => (dag_Least.j1 k1 l2 (mx x7_1 (wrap64 ((rd l2 x17_1) + t554))) (rd l2 x17_1) l0 (l0.length : Int) x17_1 a1_0 a1_1 a1_2 a1_3 a1_4 a1_5 ((q24 l0 x17_1).f0) ((q24 l0 x17_1).f1) ((q24 l0 x17_1).f2) ((q24 l0 x17_1).f3) ((q24 l0 x17_1).f4) ((q24 l0 x17_1).f5))) = some r := by rw [if_pos rfl] at H; exact H
         clear H
         have H := H1
         clear H1
         replace H := Option.bind_eq_some_iff.mp H
         obtain ⟨t554, A210, H⟩ := H
         replace H : (dag_Least.j1 k1 l2 (mx x7_1 (wrap64 ((rd l2 x17_1) + t554))) (rd l2 x17_1) l0 (l0.length : Int) x17_1 a1_0 a1_1 a1_2 a1_3 a1_4 a1_5 ((q24 l0 x17_1).f0) ((q24 l0 x17_1).f1) ((q24 l0 x17_1).f2) ((q24 l0 x17_1).f3) ((q24 l0 x17_1).f4) ((q24 l0 x17_1).f5)) = some r := H
         have A21 := As_.mk A210
         clear A210
         obtain ⟨ji22, hji22⟩ : ∃ j_ : Int, (mx x7_1 (wrap64 ((rd l2 x17_1) + t554))) = j_ := ⟨_, rfl⟩
         replace H : (dag_Least.j1 k1 l2 ji22 (rd l2 x17_1) l0 (l0.length : Int) x17_1 a1_0 a1_1 a1_2 a1_3 a1_4 a1_5 ((q24 l0 x17_1).f0) ((q24 l0 x17_1).f1) ((q24 l0 x17_1).f2) ((q24 l0 x17_1).f3) ((q24 l0 x17_1).f4) ((q24 l0 x17_1).f5)) = some r := by first | (rw [hji22] at H; exact H) | (simp only [hji22] at H ⊢; exact H)
         (try rw [hji22] at A21)
         have hji22_ : (if x7_1 < (wrap64 ((rd l2 x17_1) + t554)) then (wrap64 ((rd l2 x17_1) + t554)) else x7_1) = ji22 := hji22
         have H' := As_.mk H
         clear H
         have hnb23 := NB551_549.out
         have hnc23 := NB549_551.out
         have hcz24_0 : w19.cell? ⟨gb551, 0, none⟩ = some (.int .i64 ((q24 l0 x17_1).f0)) := (bC_ BK551.out 0).trans rfl
         have hcz24_1 : w19.cell? ⟨gb551, 1, none⟩ = some (.int .i64 ((q24 l0 x17_1).f1)) := (bC_ BK551.out 1).trans rfl
         have hcz24_2 : w19.cell? ⟨gb551, 2, none⟩ = some (.int .i64 ((q24 l0 x17_1).f2)) := (bC_ BK551.out 2).trans rfl
         have hcz24_3 : w19.cell? ⟨gb551, 3, none⟩ = some (.int .i64 ((q24 l0 x17_1).f3)) := (bC_ BK551.out 3).trans rfl
         have hcz24_4 : w19.cell? ⟨gb551, 4, none⟩ = some (.int .i64 ((q24 l0 x17_1).f4)) := (bC_ BK551.out 4).trans rfl
         have hcz24_5 : w19.cell? ⟨gb551, 5, none⟩ = some (.string ((q24 l0 x17_1).f5)) := (bC_ BK551.out 5).trans rfl
         have hfz24_0 := bZ_ BK551.out 0
         have hfz24_1 := bZ_ BK551.out 1
         have hfz24_2 := bZ_ BK551.out 2
         have hfz24_3 := bZ_ BK551.out 3
         have hfz24_4 := bZ_ BK551.out 4
         have hfz24_5 := bZ_ BK551.out 5
         go_wp2_with (first | ((with_reducible refine gC_ (f := 92) rfl ?_); refine goesL_ (some 33) rfl rfl Try.func92 (by kernel_rfl) rfl #[.int .i64 ((q24 l0 x17_1).f0)] rfl (by (try simp only [List.map_toArray, List.map_cons, List.map_nil]); first | done | rfl) ?_; (with_reducible refine (isa_Late.calls k1 ((q24 l0 x17_1).f0) t554 _ A21.out).mono ?_); rintro e w' ⟨rfl, ⟨nd, rfl⟩⟩; refine ⟨_, rfl, ?_⟩))
         go_meet
         case rel => exact ⟨_, (ji22), (by first | rfl | (simp; done) | (simp only [← hji22] <;> (first | rfl | simp)) | (simp [*]; done) | (congr 1; rw [Bool.eq_iff_iff]; simp; done)), H', ⟨by have := HK1.out; first | omega | exact Nat.le_refl _⟩, ⟨by (with_reducible repeat (first | refine kN_ ?_ _ | refine kD_ ?_ | refine kA_ ?_ _)); exact BK549.out⟩, ⟨by (with_reducible repeat (first | refine kN_ ?_ _ | refine kD_ ?_ | refine kA_ ?_ _)); exact BK551.out⟩, ⟨by repeat (first | (with_reducible first | exact HB.out | apply bA_ | apply bN_ | apply b1_ | refine bS_ ?_ GE549.out | refine bS_ ?_ GE551.out) | exact HB.out)⟩⟩
        replace c20 := Bool.eq_false_iff.mpr c20
        subst c20
        have H1 : (dag_Least.j1 k1 l2 x7_1 (rd l2 x17_1) l0 (l0.length : Int) x17_1 a1_0 a1_1 a1_2 a1_3 a1_4 a1_5 ((q24 l0 x17_1).f0) ((q24 l0 x17_1).f1) ((q24 l0 x17_1).f2) ((q24 l0 x17_1).f3) ((q24 l0 x17_1).f4) ((q24 l0 x17_1).f5)) = some r := by rw [if_neg (show ¬ (false = true) by decide)] at H; exact H
        clear H
        have H := H1
        clear H1
        have H' := As_.mk H
        clear H
        go_wp2
        go_meet
        case rel => exact ⟨_, (x7_1), (by first | rfl | (simp; done) | (simp [*]; done) | (simp [wrap64]; done) | (congr 1; rw [Bool.eq_iff_iff]; simp; done)), H', ⟨by have := HK1.out; first | omega | exact Nat.le_refl _⟩, ⟨by (with_reducible repeat (first | refine kN_ ?_ _ | refine kD_ ?_ | refine kA_ ?_ _)); exact BK549.out⟩, ⟨by (with_reducible repeat (first | refine kN_ ?_ _ | refine kD_ ?_ | refine kA_ ?_ _)); exact BK551.out⟩, ⟨by repeat (first | (with_reducible first | exact HB.out | apply bA_ | apply bN_ | apply b1_ | refine bS_ ?_ GE549.out | refine bS_ ?_ GE551.out) | exact HB.out)⟩⟩
       case rest =>
        clear HC14
        obtain ⟨kq, x7_13, rfl, HA, HJ13, BK549, BK551, HB⟩ := hcut
        cases kq with
        | zero => exact absurd HA.out (by simp [dag_Least.j1])
        | succ kj13 =>
         have H := HA.out
         clear HA
         simp only [dag_Least.j1] at H
         have HC25 := As_.mk H
         clear H
         go_upto_region 10 with (fail)
         go_cut [48] (fun v48 wc => ∃ (kq : Nat) (x48_24 : Bool), v48 = .bool x48_24 ∧ As_ (dag_Least.j2 kq l2 x7_13 (rd l2 x17_1) l0 (l0.length : Int) x17_1 x48_24 a1_0 a1_1 a1_2 a1_3 a1_4 a1_5 ((q24 l0 x17_1).f0) ((q24 l0 x17_1).f1) ((q24 l0 x17_1).f2) ((q24 l0 x17_1).f3) ((q24 l0 x17_1).f4) ((q24 l0 x17_1).f5) = some r) ∧ As_ (kq ≤ kj13) ∧ As_ (wc.heap[gb549]? = some (.cells #[.int .i64 a1_0, .int .i64 a1_1, .int .i64 a1_2, .int .i64 a1_3, .int .i64 a1_4, .string a1_5] 24 (0, 0))) ∧ As_ (wc.heap[gb551]? = some (.cells #[.int .i64 ((q24 l0 x17_1).f0), .int .i64 ((q24 l0 x17_1).f1), .int .i64 ((q24 l0 x17_1).f2), .int .i64 ((q24 l0 x17_1).f3), .int .i64 ((q24 l0 x17_1).f4), .string ((q24 l0 x17_1).f5)] 24 (0, 0))) ∧ As_ (Below w.heap.size w wc))
         case first =>
          have H := HC25.out
          clear HC25
          by_cases c26 : a1_0 = 33
          ·rw [if_pos c26] at H
           have c26b0 : (a1_0 == 33) = true := beq_iff_eq.mpr c26
           have c26b1 : (a1_0 != 33) = false := bne_eq_false_iff_eq.mpr c26
           clear c26
           (first | rw [c26b0] | (simp only [i64_w, i32_w]; rw [c26b0]) | skip)
           have H' := As_.mk H
           clear H
           have hnb27 := NB549_551.out
           have hnc27 := NB551_549.out
           have hcz28_0 : wc.cell? ⟨gb549, 0, none⟩ = some (.int .i64 a1_0) := (bC_ BK549.out 0).trans rfl
           have hcz28_1 : wc.cell? ⟨gb549, 1, none⟩ = some (.int .i64 a1_1) := (bC_ BK549.out 1).trans rfl
           have hcz28_2 : wc.cell? ⟨gb549, 2, none⟩ = some (.int .i64 a1_2) := (bC_ BK549.out 2).trans rfl
           have hcz28_3 : wc.cell? ⟨gb549, 3, none⟩ = some (.int .i64 a1_3) := (bC_ BK549.out 3).trans rfl
           have hcz28_4 : wc.cell? ⟨gb549, 4, none⟩ = some (.int .i64 a1_4) := (bC_ BK549.out 4).trans rfl
           have hcz28_5 : wc.cell? ⟨gb549, 5, none⟩ = some (.string a1_5) := (bC_ BK549.out 5).trans rfl
           have hfz28_0 := bZ_ BK549.out 0
           have hfz28_1 := bZ_ BK549.out 1
           have hfz28_2 := bZ_ BK549.out 2
           have hfz28_3 := bZ_ BK549.out 3
           have hfz28_4 := bZ_ BK549.out 4
           have hfz28_5 := bZ_ BK549.out 5
           go_wp2
           go_meet
           case rel => exact ⟨_, (true), (by first | rfl | (simp; done) | (simp [*]; done) | (simp [wrap64]; done) | (congr 1; rw [Bool.eq_iff_iff]; simp; done)), H', ⟨by have := HK1.out; have := HJ13.out; first | omega | exact Nat.le_refl _⟩, ⟨by (with_reducible repeat (first | refine kN_ ?_ _ | refine kD_ ?_ | refine kA_ ?_ _)); exact BK549.out⟩, ⟨by (with_reducible repeat (first | refine kN_ ?_ _ | refine kD_ ?_ | refine kA_ ?_ _)); exact BK551.out⟩, ⟨by repeat (first | (with_reducible first | exact HB.out | apply bA_ | apply bN_ | apply b1_ | refine bS_ ?_ GE549.out | refine bS_ ?_ GE551.out) | exact HB.out)⟩⟩
          rw [if_neg c26] at H
          have c26b0 : (a1_0 == 33) = false := beq_eq_false_iff_ne.mpr c26
          have c26b1 : (a1_0 != 33) = true := bne_iff_ne.mpr c26
          (first | rw [c26b0] | (simp only [i64_w, i32_w]; rw [c26b0]) | skip)
          replace H := Option.bind_eq_some_iff.mp H
          obtain ⟨t555, A290, H⟩ := H
          replace H : (if t555 = true then ((isa_Effect.f kj13 ((q24 l0 x17_1).f0)).bind fun t556 => (dag_Least.j2 kj13 l2 x7_13 (rd l2 x17_1) l0 (l0.length : Int) x17_1 t556 a1_0 a1_1 a1_2 a1_3 a1_4 a1_5 ((q24 l0 x17_1).f0) ((q24 l0 x17_1).f1) ((q24 l0 x17_1).f2) ((q24 l0 x17_1).f3) ((q24 l0 x17_1).f4) ((q24 l0 x17_1).f5))) else (dag_Least.j2 kj13 l2 x7_13 (rd l2 x17_1) l0 (l0.length : Int) x17_1 false a1_0 a1_1 a1_2 a1_3 a1_4 a1_5 ((q24 l0 x17_1).f0) ((q24 l0 x17_1).f1) ((q24 l0 x17_1).f2) ((q24 l0 x17_1).f3) ((q24 l0 x17_1).f4) ((q24 l0 x17_1).f5))) = some r := H
          have A29 := As_.mk A290
          clear A290
          by_cases c30 : t555 = true
          ·subst c30
           have H1 : ((isa_Effect.f kj13 ((q24 l0 x17_1).f0)).bind fun t556 => (dag_Least.j2 kj13 l2 x7_13 (rd l2 x17_1) l0 (l0.length : Int) x17_1 t556 a1_0 a1_1 a1_2 a1_3 a1_4 a1_5 ((q24 l0 x17_1).f0) ((q24 l0 x17_1).f1) ((q24 l0 x17_1).f2) ((q24 l0 x17_1).f3) ((q24 l0 x17_1).f4) ((q24 l0 x17_1).f5))) = some r := by rw [if_pos rfl] at H; exact H
           clear H
           have H := H1
           clear H1
           replace H := Option.bind_eq_some_iff.mp H
           obtain ⟨t556, A310, H⟩ := H
           replace H : (dag_Least.j2 kj13 l2 x7_13 (rd l2 x17_1) l0 (l0.length : Int) x17_1 t556 a1_0 a1_1 a1_2 a1_3 a1_4 a1_5 ((q24 l0 x17_1).f0) ((q24 l0 x17_1).f1) ((q24 l0 x17_1).f2) ((q24 l0 x17_1).f3) ((q24 l0 x17_1).f4) ((q24 l0 x17_1).f5)) = some r := H
           have A31 := As_.mk A310
           clear A310
           have H' := As_.mk H
           clear H
           have hnb32 := NB549_551.out
           have hnc32 := NB551_549.out
           have hcz33_0 : wc.cell? ⟨gb549, 0, none⟩ = some (.int .i64 a1_0) := (bC_ BK549.out 0).trans rfl
           have hcz33_1 : wc.cell? ⟨gb549, 1, none⟩ = some (.int .i64 a1_1) := (bC_ BK549.out 1).trans rfl
           have hcz33_2 : wc.cell? ⟨gb549, 2, none⟩ = some (.int .i64 a1_2) := (bC_ BK549.out 2).trans rfl
           have hcz33_3 : wc.cell? ⟨gb549, 3, none⟩ = some (.int .i64 a1_3) := (bC_ BK549.out 3).trans rfl
           have hcz33_4 : wc.cell? ⟨gb549, 4, none⟩ = some (.int .i64 a1_4) := (bC_ BK549.out 4).trans rfl
           have hcz33_5 : wc.cell? ⟨gb549, 5, none⟩ = some (.string a1_5) := (bC_ BK549.out 5).trans rfl
           have hfz33_0 := bZ_ BK549.out 0
           have hfz33_1 := bZ_ BK549.out 1
           have hfz33_2 := bZ_ BK549.out 2
           have hfz33_3 := bZ_ BK549.out 3
           have hfz33_4 := bZ_ BK549.out 4
           have hfz33_5 := bZ_ BK549.out 5
           go_wp2_with (first | (go_at_call 94; (with_reducible refine (isa_Effect.calls kj13 a1_0 true _ A29.out).mono ?_); rintro e w' ⟨rfl, ⟨nd, rfl⟩⟩; have hcz34_0 : wc.cell? ⟨gb551, 0, none⟩ = some (.int .i64 ((q24 l0 x17_1).f0)) := (bC_ BK551.out 0).trans rfl; have hcz34_1 : wc.cell? ⟨gb551, 1, none⟩ = some (.int .i64 ((q24 l0 x17_1).f1)) := (bC_ BK551.out 1).trans rfl; have hcz34_2 : wc.cell? ⟨gb551, 2, none⟩ = some (.int .i64 ((q24 l0 x17_1).f2)) := (bC_ BK551.out 2).trans rfl; have hcz34_3 : wc.cell? ⟨gb551, 3, none⟩ = some (.int .i64 ((q24 l0 x17_1).f3)) := (bC_ BK551.out 3).trans rfl; have hcz34_4 : wc.cell? ⟨gb551, 4, none⟩ = some (.int .i64 ((q24 l0 x17_1).f4)) := (bC_ BK551.out 4).trans rfl; have hcz34_5 : wc.cell? ⟨gb551, 5, none⟩ = some (.string ((q24 l0 x17_1).f5)) := (bC_ BK551.out 5).trans rfl; have hfz34_0 := bZ_ BK551.out 0; have hfz34_1 := bZ_ BK551.out 1; have hfz34_2 := bZ_ BK551.out 2; have hfz34_3 := bZ_ BK551.out 3; have hfz34_4 := bZ_ BK551.out 4; have hfz34_5 := bZ_ BK551.out 5) | (go_at_call 94; (with_reducible refine (isa_Effect.calls kj13 ((q24 l0 x17_1).f0) t556 _ A31.out).mono ?_); rintro e w' ⟨rfl, ⟨nd, rfl⟩⟩))
           go_meet
           case rel => exact ⟨_, (t556), (by first | rfl | (simp; done) | (simp [*]; done) | (simp [wrap64]; done) | (congr 1; rw [Bool.eq_iff_iff]; simp; done)), H', ⟨by have := HK1.out; have := HJ13.out; first | omega | exact Nat.le_refl _⟩, ⟨by (with_reducible repeat (first | refine kN_ ?_ _ | refine kD_ ?_ | refine kA_ ?_ _)); exact BK549.out⟩, ⟨by (with_reducible repeat (first | refine kN_ ?_ _ | refine kD_ ?_ | refine kA_ ?_ _)); exact BK551.out⟩, ⟨by repeat (first | (with_reducible first | exact HB.out | apply bA_ | apply bN_ | apply b1_ | refine bS_ ?_ GE549.out | refine bS_ ?_ GE551.out) | exact HB.out)⟩⟩
          replace c30 := Bool.eq_false_iff.mpr c30
          subst c30
          have H1 : (dag_Least.j2 kj13 l2 x7_13 (rd l2 x17_1) l0 (l0.length : Int) x17_1 false a1_0 a1_1 a1_2 a1_3 a1_4 a1_5 ((q24 l0 x17_1).f0) ((q24 l0 x17_1).f1) ((q24 l0 x17_1).f2) ((q24 l0 x17_1).f3) ((q24 l0 x17_1).f4) ((q24 l0 x17_1).f5)) = some r := by rw [if_neg (show ¬ (false = true) by decide)] at H; exact H
          clear H
          have H := H1
          clear H1
          have H' := As_.mk H
          clear H
          have hnb35 := NB549_551.out
          have hnc35 := NB551_549.out
          have hcz36_0 : wc.cell? ⟨gb549, 0, none⟩ = some (.int .i64 a1_0) := (bC_ BK549.out 0).trans rfl
          have hcz36_1 : wc.cell? ⟨gb549, 1, none⟩ = some (.int .i64 a1_1) := (bC_ BK549.out 1).trans rfl
          have hcz36_2 : wc.cell? ⟨gb549, 2, none⟩ = some (.int .i64 a1_2) := (bC_ BK549.out 2).trans rfl
          have hcz36_3 : wc.cell? ⟨gb549, 3, none⟩ = some (.int .i64 a1_3) := (bC_ BK549.out 3).trans rfl
          have hcz36_4 : wc.cell? ⟨gb549, 4, none⟩ = some (.int .i64 a1_4) := (bC_ BK549.out 4).trans rfl
          have hcz36_5 : wc.cell? ⟨gb549, 5, none⟩ = some (.string a1_5) := (bC_ BK549.out 5).trans rfl
          have hfz36_0 := bZ_ BK549.out 0
          have hfz36_1 := bZ_ BK549.out 1
          have hfz36_2 := bZ_ BK549.out 2
          have hfz36_3 := bZ_ BK549.out 3
          have hfz36_4 := bZ_ BK549.out 4
          have hfz36_5 := bZ_ BK549.out 5
          go_wp2_with (first | (go_at_call 94; (with_reducible refine (isa_Effect.calls kj13 a1_0 false _ A29.out).mono ?_); rintro e w' ⟨rfl, ⟨nd, rfl⟩⟩))
          go_meet
          case rel => exact ⟨_, (false), (by first | rfl | (simp; done) | (simp [*]; done) | (simp [wrap64]; done) | (congr 1; rw [Bool.eq_iff_iff]; simp; done)), H', ⟨by have := HK1.out; have := HJ13.out; first | omega | exact Nat.le_refl _⟩, ⟨by (with_reducible repeat (first | refine kN_ ?_ _ | refine kD_ ?_ | refine kA_ ?_ _)); exact BK549.out⟩, ⟨by (with_reducible repeat (first | refine kN_ ?_ _ | refine kD_ ?_ | refine kA_ ?_ _)); exact BK551.out⟩, ⟨by repeat (first | (with_reducible first | exact HB.out | apply bA_ | apply bN_ | apply b1_ | refine bS_ ?_ GE549.out | refine bS_ ?_ GE551.out) | exact HB.out)⟩⟩
         case rest =>
          clear HC25
          obtain ⟨kq, x48_24, rfl, HA, HJ24, BK549, BK551, HB⟩ := hcut
          cases kq with
          | zero => exact absurd HA.out (by simp [dag_Least.j2])
          | succ kj24 =>
           have H := HA.out
           clear HA
           simp only [dag_Least.j2] at H
           have HC37 := As_.mk H
           clear H
           go_upto_if 48 with (fail)
           go_cut [7] (fun v7 wc => ∃ (kq : Nat) (x7_36 : Int), v7 = .int .i64 x7_36 ∧ As_ (dag_Least.j3 kq l2 x7_36 (rd l2 x17_1) l0 (l0.length : Int) x17_1 a1_0 a1_1 a1_2 a1_3 a1_4 a1_5 ((q24 l0 x17_1).f0) ((q24 l0 x17_1).f1) ((q24 l0 x17_1).f2) ((q24 l0 x17_1).f3) ((q24 l0 x17_1).f4) ((q24 l0 x17_1).f5) = some r) ∧ As_ (kq ≤ kj24) ∧ As_ (wc.heap[gb549]? = some (.cells #[.int .i64 a1_0, .int .i64 a1_1, .int .i64 a1_2, .int .i64 a1_3, .int .i64 a1_4, .string a1_5] 24 (0, 0))) ∧ As_ (wc.heap[gb551]? = some (.cells #[.int .i64 ((q24 l0 x17_1).f0), .int .i64 ((q24 l0 x17_1).f1), .int .i64 ((q24 l0 x17_1).f2), .int .i64 ((q24 l0 x17_1).f3), .int .i64 ((q24 l0 x17_1).f4), .string ((q24 l0 x17_1).f5)] 24 (0, 0))) ∧ As_ (Below w.heap.size w wc))
           case first =>
            have H := HC37.out
            clear HC37
            by_cases c38 : x48_24 = true
            ·subst c38
             have H1 : (dag_Least.j3 kj24 l2 (mx x7_13 (wrap64 ((rd l2 x17_1) + 1))) (rd l2 x17_1) l0 (l0.length : Int) x17_1 a1_0 a1_1 a1_2 a1_3 a1_4 a1_5 ((q24 l0 x17_1).f0) ((q24 l0 x17_1).f1) ((q24 l0 x17_1).f2) ((q24 l0 x17_1).f3) ((q24 l0 x17_1).f4) ((q24 l0 x17_1).f5)) = some r := by rw [if_pos rfl] at H; exact H
             clear H
             have H := H1
             clear H1
             obtain ⟨ji39, hji39⟩ : ∃ j_ : Int, (mx x7_13 (wrap64 ((rd l2 x17_1) + 1))) = j_ := ⟨_, rfl⟩
             replace H : (dag_Least.j3 kj24 l2 ji39 (rd l2 x17_1) l0 (l0.length : Int) x17_1 a1_0 a1_1 a1_2 a1_3 a1_4 a1_5 ((q24 l0 x17_1).f0) ((q24 l0 x17_1).f1) ((q24 l0 x17_1).f2) ((q24 l0 x17_1).f3) ((q24 l0 x17_1).f4) ((q24 l0 x17_1).f5)) = some r := by first | (rw [hji39] at H; exact H) | (simp only [hji39] at H ⊢; exact H)
             have hji39_ : (if x7_13 < (wrap64 ((rd l2 x17_1) + 1)) then (wrap64 ((rd l2 x17_1) + 1)) else x7_13) = ji39 := hji39
             have H' := As_.mk H
             clear H
             go_wp2
             go_meet
             case rel => exact ⟨_, (ji39), (by first | rfl | (simp; done) | (simp only [← hji39] <;> (first | rfl | simp)) | (simp [*]; done) | (congr 1; rw [Bool.eq_iff_iff]; simp; done)), H', ⟨by have := HK1.out; have := HJ13.out; have := HJ24.out; first | omega | exact Nat.le_refl _⟩, ⟨by (with_reducible repeat (first | refine kN_ ?_ _ | refine kD_ ?_ | refine kA_ ?_ _)); exact BK549.out⟩, ⟨by (with_reducible repeat (first | refine kN_ ?_ _ | refine kD_ ?_ | refine kA_ ?_ _)); exact BK551.out⟩, ⟨by repeat (first | (with_reducible first | exact HB.out | apply bA_ | apply bN_ | apply b1_ | refine bS_ ?_ GE549.out | refine bS_ ?_ GE551.out) | exact HB.out)⟩⟩
            replace c38 := Bool.eq_false_iff.mpr c38
            subst c38
            have H1 : (dag_Least.j3 kj24 l2 x7_13 (rd l2 x17_1) l0 (l0.length : Int) x17_1 a1_0 a1_1 a1_2 a1_3 a1_4 a1_5 ((q24 l0 x17_1).f0) ((q24 l0 x17_1).f1) ((q24 l0 x17_1).f2) ((q24 l0 x17_1).f3) ((q24 l0 x17_1).f4) ((q24 l0 x17_1).f5)) = some r := by rw [if_neg (show ¬ (false = true) by decide)] at H; exact H
            clear H
            have H := H1
            clear H1
            have H' := As_.mk H
            clear H
            go_wp2
            go_meet
            case rel => exact ⟨_, (x7_13), (by first | rfl | (simp; done) | (simp [*]; done) | (simp [wrap64]; done) | (congr 1; rw [Bool.eq_iff_iff]; simp; done)), H', ⟨by have := HK1.out; have := HJ13.out; have := HJ24.out; first | omega | exact Nat.le_refl _⟩, ⟨by (with_reducible repeat (first | refine kN_ ?_ _ | refine kD_ ?_ | refine kA_ ?_ _)); exact BK549.out⟩, ⟨by (with_reducible repeat (first | refine kN_ ?_ _ | refine kD_ ?_ | refine kA_ ?_ _)); exact BK551.out⟩, ⟨by repeat (first | (with_reducible first | exact HB.out | apply bA_ | apply bN_ | apply b1_ | refine bS_ ?_ GE549.out | refine bS_ ?_ GE551.out) | exact HB.out)⟩⟩
           case rest =>
            clear HC37
            obtain ⟨kq, x7_36, rfl, HA, HJ36, BK549, BK551, HB⟩ := hcut
            cases kq with
            | zero => exact absurd HA.out (by simp [dag_Least.j3])
            | succ kj36 =>
             have H := HA.out
             clear HA
             simp only [dag_Least.j3] at H
             by_cases c40 : a1_0 = 33
             ·rw [if_pos c40] at H
              have c40b0 : (a1_0 == 33) = true := beq_iff_eq.mpr c40
              have c40b1 : (a1_0 != 33) = false := bne_eq_false_iff_eq.mpr c40
              clear c40
              have H' := As_.mk H
              clear H
              have hnb41 := NB549_551.out
              have hnc41 := NB551_549.out
              have hcz42_0 : wc.cell? ⟨gb549, 0, none⟩ = some (.int .i64 a1_0) := (bC_ BK549.out 0).trans rfl
              have hcz42_1 : wc.cell? ⟨gb549, 1, none⟩ = some (.int .i64 a1_1) := (bC_ BK549.out 1).trans rfl
              have hcz42_2 : wc.cell? ⟨gb549, 2, none⟩ = some (.int .i64 a1_2) := (bC_ BK549.out 2).trans rfl
              have hcz42_3 : wc.cell? ⟨gb549, 3, none⟩ = some (.int .i64 a1_3) := (bC_ BK549.out 3).trans rfl
              have hcz42_4 : wc.cell? ⟨gb549, 4, none⟩ = some (.int .i64 a1_4) := (bC_ BK549.out 4).trans rfl
              have hcz42_5 : wc.cell? ⟨gb549, 5, none⟩ = some (.string a1_5) := (bC_ BK549.out 5).trans rfl
              have hfz42_0 := bZ_ BK549.out 0
              have hfz42_1 := bZ_ BK549.out 1
              have hfz42_2 := bZ_ BK549.out 2
              have hfz42_3 := bZ_ BK549.out 3
              have hfz42_4 := bZ_ BK549.out 4
              have hfz42_5 := bZ_ BK549.out 5
              go_wp2
              go_roundg kj36
              case measure => have := HK1.out; have := HJ13.out; have := HJ24.out; have := HJ36.out; omega
              case rel => exact ⟨(x7_36), (wrap64 (x17_1 + 1)), (by first | rfl | (simp; done) | (simp [*]; done) | (simp [wrap64]; done) | (congr 1; rw [Bool.eq_iff_iff]; simp; done)), (by first | rfl | (simp; done) | (simp [*]; done) | (simp [wrap64]; done) | (congr 1; rw [Bool.eq_iff_iff]; simp; done)), H', ⟨by have := HK1.out; have := HJ13.out; have := HJ24.out; have := HJ36.out; omega⟩, ⟨by (with_reducible repeat (first | refine kN_ ?_ _ | refine kD_ ?_ | refine kA_ ?_ _)); exact BK549.out⟩, ⟨by repeat (first | (with_reducible first | exact HB.out | apply bA_ | apply bN_ | apply b1_ | refine bS_ ?_ GE549.out | refine bS_ ?_ GE551.out) | exact HB.out)⟩⟩
             rw [if_neg c40] at H
             have c40b0 : (a1_0 == 33) = false := beq_eq_false_iff_ne.mpr c40
             have c40b1 : (a1_0 != 33) = true := bne_iff_ne.mpr c40
             replace H := Option.bind_eq_some_iff.mp H
             obtain ⟨t557, A430, H⟩ := H
             replace H : (dag_Least.l0 kj36 l2 (mx (mx x7_36 (wrap64 ((rd l2 x17_1) - 2))) (wrap64 ((wrap64 ((wrap64 ((rd l2 x17_1) + t557)) - 2)) - 1))) l0 (l0.length : Int) (wrap64 (x17_1 + 1)) a1_0 a1_1 a1_2 a1_3 a1_4 a1_5) = some r := H
             have A43 := As_.mk A430
             clear A430
             obtain ⟨ji44, hji44⟩ : ∃ j_ : Int, (mx x7_36 (wrap64 ((rd l2 x17_1) - 2))) = j_ := ⟨_, rfl⟩
             replace H : (dag_Least.l0 kj36 l2 (mx (ji44) (wrap64 ((wrap64 ((wrap64 ((rd l2 x17_1) + t557)) - 2)) - 1))) l0 (l0.length : Int) (wrap64 (x17_1 + 1)) a1_0 a1_1 a1_2 a1_3 a1_4 a1_5) = some r := by first | (rw [hji44] at H; exact H) | (simp only [hji44] at H ⊢; exact H)
             (try rw [hji44] at A43)
             have hji44_ : (if x7_36 < (wrap64 ((rd l2 x17_1) - 2)) then (wrap64 ((rd l2 x17_1) - 2)) else x7_36) = ji44 := hji44
             obtain ⟨ji45, hji45⟩ : ∃ j_ : Int, (mx (ji44) (wrap64 ((wrap64 ((wrap64 ((rd l2 x17_1) + t557)) - 2)) - 1))) = j_ := ⟨_, rfl⟩
             replace H : (dag_Least.l0 kj36 l2 ji45 l0 (l0.length : Int) (wrap64 (x17_1 + 1)) a1_0 a1_1 a1_2 a1_3 a1_4 a1_5) = some r := by first | (rw [hji45] at H; exact H) | (simp only [hji45] at H ⊢; exact H)
             (try rw [hji45] at A43)
             have hji45_ : (if (ji44) < (wrap64 ((wrap64 ((wrap64 ((rd l2 x17_1) + t557)) - 2)) - 1)) then (wrap64 ((wrap64 ((wrap64 ((rd l2 x17_1) + t557)) - 2)) - 1)) else (ji44)) = ji45 := hji45
             have H' := As_.mk H
             clear H
             have hnb46 := NB549_551.out
             have hnc46 := NB551_549.out
             have hcz47_0 : wc.cell? ⟨gb549, 0, none⟩ = some (.int .i64 a1_0) := (bC_ BK549.out 0).trans rfl
             have hcz47_1 : wc.cell? ⟨gb549, 1, none⟩ = some (.int .i64 a1_1) := (bC_ BK549.out 1).trans rfl
             have hcz47_2 : wc.cell? ⟨gb549, 2, none⟩ = some (.int .i64 a1_2) := (bC_ BK549.out 2).trans rfl
             have hcz47_3 : wc.cell? ⟨gb549, 3, none⟩ = some (.int .i64 a1_3) := (bC_ BK549.out 3).trans rfl
             have hcz47_4 : wc.cell? ⟨gb549, 4, none⟩ = some (.int .i64 a1_4) := (bC_ BK549.out 4).trans rfl
             have hcz47_5 : wc.cell? ⟨gb549, 5, none⟩ = some (.string a1_5) := (bC_ BK549.out 5).trans rfl
             have hfz47_0 := bZ_ BK549.out 0
             have hfz47_1 := bZ_ BK549.out 1
             have hfz47_2 := bZ_ BK549.out 2
             have hfz47_3 := bZ_ BK549.out 3
             have hfz47_4 := bZ_ BK549.out 4
             have hfz47_5 := bZ_ BK549.out 5
             have hcz48_0 : wc.cell? ⟨gb551, 0, none⟩ = some (.int .i64 ((q24 l0 x17_1).f0)) := (bC_ BK551.out 0).trans rfl
             have hcz48_1 : wc.cell? ⟨gb551, 1, none⟩ = some (.int .i64 ((q24 l0 x17_1).f1)) := (bC_ BK551.out 1).trans rfl
             have hcz48_2 : wc.cell? ⟨gb551, 2, none⟩ = some (.int .i64 ((q24 l0 x17_1).f2)) := (bC_ BK551.out 2).trans rfl
             have hcz48_3 : wc.cell? ⟨gb551, 3, none⟩ = some (.int .i64 ((q24 l0 x17_1).f3)) := (bC_ BK551.out 3).trans rfl
             have hcz48_4 : wc.cell? ⟨gb551, 4, none⟩ = some (.int .i64 ((q24 l0 x17_1).f4)) := (bC_ BK551.out 4).trans rfl
             have hcz48_5 : wc.cell? ⟨gb551, 5, none⟩ = some (.string ((q24 l0 x17_1).f5)) := (bC_ BK551.out 5).trans rfl
             have hfz48_0 := bZ_ BK551.out 0
             have hfz48_1 := bZ_ BK551.out 1
             have hfz48_2 := bZ_ BK551.out 2
             have hfz48_3 := bZ_ BK551.out 3
             have hfz48_4 := bZ_ BK551.out 4
             have hfz48_5 := bZ_ BK551.out 5
             go_wp2_with (first | ((with_reducible refine gC_ (f := 92) rfl ?_); refine goesL_ (some 62) rfl rfl Try.func92 (by kernel_rfl) rfl #[.int .i64 ((q24 l0 x17_1).f0)] rfl (by (try simp only [List.map_toArray, List.map_cons, List.map_nil]); first | done | rfl) ?_; (with_reducible refine (isa_Late.calls kj36 ((q24 l0 x17_1).f0) t557 _ A43.out).mono ?_); rintro e w' ⟨rfl, ⟨nd, rfl⟩⟩; refine ⟨_, rfl, ?_⟩))
             go_roundg kj36
             case measure => have := HK1.out; have := HJ13.out; have := HJ24.out; have := HJ36.out; omega
             case rel => exact ⟨(ji45), (wrap64 (x17_1 + 1)), (by first | rfl | (simp; done) | (simp only [← hji45] <;> (first | rfl | simp)) | (simp [*]; done) | (congr 1; rw [Bool.eq_iff_iff]; simp; done)), (by first | rfl | (simp; done) | (simp [*]; done) | (simp [wrap64]; done) | (congr 1; rw [Bool.eq_iff_iff]; simp; done)), H', ⟨by have := HK1.out; have := HJ13.out; have := HJ24.out; have := HJ36.out; omega⟩, ⟨by (with_reducible repeat (first | refine kN_ ?_ _ | refine kD_ ?_ | refine kA_ ?_ _)); exact BK549.out⟩, ⟨by repeat (first | (with_reducible first | exact HB.out | apply bA_ | apply bN_ | apply b1_ | refine bS_ ?_ GE549.out | refine bS_ ?_ GE551.out) | exact HB.out)⟩⟩
      rw [if_neg c12] at H
      exact absurd H (by simp)
     rw [if_neg c11] at H
     exact absurd H (by simp)
    rw [if_neg c10] at H
    exact absurd H (by simp)
   rw [if_neg c9] at H
   have c9b0 : decide (x17_1 < (l0.length : Int)) = false := decide_eq_false c9
   clear c9
   obtain rfl := Option.some.inj H
   go_wp2
   go_ret
   exact ⟨by first | rfl | (simp [eN_, eS_] <;> rfl) | (simp [*, eN_, eS_] <;> rfl), by repeat (first | (with_reducible first | exact HB.out | apply bA_ | apply bN_ | apply b1_ | refine bS_ ?_ GE549.out) | exact HB.out)⟩
end Go.Proofs.Ytibfkkjkahpobaa.PDag
