import Derived.Test.YtibfkkjkahpobaaJu15
import Derived.Test.YtibfkkjkahpobaaJu16
import Derived.Test.YtibfkkjkahpobaaJu17
import Derived.Test.YtibfkkjkahpobaaJu22
-- the texts that this claim needs, out of this session's and its print's (wip/shrink.py)
namespace Go.Proofs.Ytibfkkjkahpobaa.PDag
open Go.RowKit Go.Proofs.YtibfkkjkahpobaaW.PrintWords Go.Proofs.YtibfkkjkahpobaaW.PrintLast Go.Proofs.YtibfkkjkahpobaaW.PrintMore
attribute [local go_sem] max2_int min2_int max_two min_two max_three min_three max_four min_four   -- for this text's walks alone
set_option linter.unusedVariables false
set_option linter.unusedSimpArgs false
mutual
def dag_dist.j0 : Nat → Int → Int → Int → Int → Int → Int → ByteArray → Int → Int → Int → Int → Int → ByteArray → Option (Int)
  | 0, _, _, _, _, _, _, _, _, _, _, _, _, _ => none
  | k + 1, x5, x160a, x160b, x160c, x160d, x160e, x160f, x161a, x161b, x161c, x161d, x161e, x161f => (isa_Effect.f k x160a).bind fun t162 => (if t162 = true then ((isa_Effect.f k x161a).bind fun t163 => (dag_dist.j1 k x5 t163 x160a x160b x160c x160d x160e x160f x161a x161b x161c x161d x161e x161f)) else (dag_dist.j1 k x5 false x160a x160b x160c x160d x160e x160f x161a x161b x161c x161d x161e x161f))
def dag_dist.j1 : Nat → Int → Bool → Int → Int → Int → Int → Int → ByteArray → Int → Int → Int → Int → Int → ByteArray → Option (Int)
  | 0, _, _, _, _, _, _, _, _, _, _, _, _, _, _ => none
  | k + 1, x5, x16, x160a, x160b, x160c, x160d, x160e, x160f, x161a, x161b, x161c, x161d, x161e, x161f => if x16 = true then (dag_dist.j2 k 1 x160a x160b x160c x160d x160e x160f x161a x161b x161c x161d x161e x161f) else (dag_dist.j2 k x5 x160a x160b x160c x160d x160e x160f x161a x161b x161c x161d x161e x161f)
def dag_dist.j2 : Nat → Int → Int → Int → Int → Int → Int → ByteArray → Int → Int → Int → Int → Int → ByteArray → Option (Int)
  | 0, _, _, _, _, _, _, _, _, _, _, _, _, _ => none
  | k + 1, x5, x160a, x160b, x160c, x160d, x160e, x160f, x161a, x161b, x161c, x161d, x161e, x161f => (dag_reads.f k x161a x161b x161c x161d x161e x161f x160a x160b x160c x160d x160e x160f).bind fun t164 => (if t164 = true then (dag_dist.j3 k x5 true x160a x160b x160c x160d x160e x160f) else ((isa_Shape.f k x161a).bind fun t165 => ((isa_HasD.f t165).bind fun t166 => (if t166 = true then ((dag_writes.f k x160a x160b x160c x160d x160e x160f x161b).bind fun t167 => (dag_dist.j3 k x5 t167 x160a x160b x160c x160d x160e x160f)) else (dag_dist.j3 k x5 false x160a x160b x160c x160d x160e x160f)))))
def dag_dist.j3 : Nat → Int → Bool → Int → Int → Int → Int → Int → ByteArray → Option (Int)
  | 0, _, _, _, _, _, _, _, _ => none
  | k + 1, x5, x31, x160a, x160b, x160c, x160d, x160e, x160f => if x31 = true then ((isa_Late.f k x160a).bind fun t168 => (some (mx x5 t168))) else (some x5)
end
def dag_dist.f (k : Nat) (a0_0 : Int) (a0_1 : Int) (a0_2 : Int) (a0_3 : Int) (a0_4 : Int) (a0_5 : ByteArray) (a1_0 : Int) (a1_1 : Int) (a1_2 : Int) (a1_3 : Int) (a1_4 : Int) (a1_5 : ByteArray) : Option (Int) := (dag_reads.f k a0_0 a0_1 a0_2 a0_3 a0_4 a0_5 a1_0 a1_1 a1_2 a1_3 a1_4 a1_5).bind fun t161 => (if t161 = true then (dag_dist.j0 k 0 a0_0 a0_1 a0_2 a0_3 a0_4 a0_5 a1_0 a1_1 a1_2 a1_3 a1_4 a1_5) else (dag_dist.j0 k (-1) a0_0 a0_1 a0_2 a0_3 a0_4 a0_5 a1_0 a1_1 a1_2 a1_3 a1_4 a1_5))
set_option maxHeartbeats 8000000 in
set_option maxRecDepth 100000 in
theorem dag_dist.calls (k : Nat) (a0_0 : Int) (a0_1 : Int) (a0_2 : Int) (a0_3 : Int) (a0_4 : Int) (a0_5 : ByteArray) (a1_0 : Int) (a1_1 : Int) (a1_2 : Int) (a1_3 : Int) (a1_4 : Int) (a1_5 : ByteArray) (r : Int) (w : World) (h : dag_dist.f k a0_0 a0_1 a0_2 a0_3 a0_4 a0_5 a1_0 a1_1 a1_2 a1_3 a1_4 a1_5 = some r) :
    Calls Try.prog 91 #[.agg #[.int .i64 a0_0, .int .i64 a0_1, .int .i64 a0_2, .int .i64 a0_3, .int .i64 a0_4, .string a0_5], .agg #[.int .i64 a1_0, .int .i64 a1_1, .int .i64 a1_2, .int .i64 a1_3, .int .i64 a1_4, .string a1_5]] w fun e w' => e = .returned (.int .i64 r) ∧ Below w.heap.size w w' := by
 have hu24 := Try.underlying24
 have HB := As_.mk (Below.refl w.heap.size w)
 have H : ((dag_reads.f k a0_0 a0_1 a0_2 a0_3 a0_4 a0_5 a1_0 a1_1 a1_2 a1_3 a1_4 a1_5).bind fun t161 => (if t161 = true then (dag_dist.j0 k 0 a0_0 a0_1 a0_2 a0_3 a0_4 a0_5 a1_0 a1_1 a1_2 a1_3 a1_4 a1_5) else (dag_dist.j0 k (-1) a0_0 a0_1 a0_2 a0_3 a0_4 a0_5 a1_0 a1_1 a1_2 a1_3 a1_4 a1_5))) = some r := h
 clear h
 replace H := Option.bind_eq_some_iff.mp H
 obtain ⟨t161, A30, H⟩ := H
 replace H : (if t161 = true then (dag_dist.j0 k 0 a0_0 a0_1 a0_2 a0_3 a0_4 a0_5 a1_0 a1_1 a1_2 a1_3 a1_4 a1_5) else (dag_dist.j0 k (-1) a0_0 a0_1 a0_2 a0_3 a0_4 a0_5 a1_0 a1_1 a1_2 a1_3 a1_4 a1_5)) = some r := H
 have A3 := As_.mk A30
 clear A30
 have HC4 := As_.mk H
 clear H
 go_enter Try.func91, Try.ntmps91
 go_upto_if 8 with (first | ((with_reducible refine gate_dst (N := 2) rfl ?_); refine box_event ?hg (N := 2) ?hd (cs := #[.int .i64 a0_0, .int .i64 a0_1, .int .i64 a0_2, .int .i64 a0_3, .int .i64 a0_4, .string a0_5]) (t := 24) ?hr ?_; (case hd => rfl); (case hg => rfl); (case hr => first | (go_simp; done) | (go_simp; rfl)); intro gb159 hg w5 hbox hb; have n0_ := As_.mk (bT_ (by repeat (first | (with_reducible first | exact HB.out | apply bA_ | apply bN_ | apply b1_) | exact HB.out)) hb); have n1_ := As_.mk (hbox); have n2_ := As_.mk ((by rw [hg]; exact (bY_ (by repeat (first | (with_reducible first | exact HB.out | apply bA_ | apply bN_ | apply b1_) | exact HB.out))) : w.heap.size ≤ gb159)); have n3_ := As_.mk ((by rw [hg]; exact (bY_ (by repeat (first | (with_reducible first | exact HB.out | apply bA_ | apply bN_ | apply b1_) | exact HB.out))) : w.heap.size ≤ gb159)); clear HB; have HB := n0_; have BK159 := n1_; have GW159 := n2_; have GE159 := n3_; clear n0_ n1_ n2_ n3_; clear hb hbox hg) | ((with_reducible refine gate_dst (N := 3) rfl ?_); refine box_event ?hg (N := 3) ?hd (cs := #[.int .i64 a1_0, .int .i64 a1_1, .int .i64 a1_2, .int .i64 a1_3, .int .i64 a1_4, .string a1_5]) (t := 24) ?hr ?_; (case hd => rfl); (case hg => rfl); (case hr => first | (go_simp; done) | (go_simp; rfl)); intro gb160 hg w6 hbox hb; have n0_ := As_.mk (kB_ (g := gb159) (o := .cells #[.int .i64 a0_0, .int .i64 a0_1, .int .i64 a0_2, .int .i64 a0_3, .int .i64 a0_4, .string a0_5] 24 (0, 0)) (by (with_reducible repeat (first | refine kN_ ?_ _ | refine kD_ ?_ | refine kA_ ?_ _)); exact BK159.out) hb); have n1_ := As_.mk (bT_ (by repeat (first | (with_reducible first | exact HB.out | apply bA_ | apply bN_ | apply b1_ | refine bS_ ?_ GE159.out) | exact HB.out)) hb); have n2_ := As_.mk (hbox); have n3_ := As_.mk ((by rw [hg]; exact (bY_ (by repeat (first | (with_reducible first | exact HB.out | apply bA_ | apply bN_ | apply b1_ | refine bS_ ?_ GE159.out) | exact HB.out))) : w.heap.size ≤ gb160)); have n4_ := As_.mk ((by rw [hg]; exact (bY_ (by repeat (first | (with_reducible first | exact HB.out | apply bA_ | apply bN_ | apply b1_ | refine bS_ ?_ GE159.out) | exact HB.out))) : w.heap.size ≤ gb160)); have n5_ := As_.mk ((by rw [hg]; exact Nat.ne_of_lt (blk_lt (g := gb159) (o := .cells #[.int .i64 a0_0, .int .i64 a0_1, .int .i64 a0_2, .int .i64 a0_3, .int .i64 a0_4, .string a0_5] 24 (0, 0)) (by (with_reducible repeat (first | refine kN_ ?_ _ | refine kD_ ?_ | refine kA_ ?_ _)); exact BK159.out)) : gb159 ≠ gb160)); have n6_ := As_.mk ((by rw [hg]; exact Nat.ne_of_gt (blk_lt (g := gb159) (o := .cells #[.int .i64 a0_0, .int .i64 a0_1, .int .i64 a0_2, .int .i64 a0_3, .int .i64 a0_4, .string a0_5] 24 (0, 0)) (by (with_reducible repeat (first | refine kN_ ?_ _ | refine kD_ ?_ | refine kA_ ?_ _)); exact BK159.out)) : gb160 ≠ gb159)); clear BK159; clear HB; have BK159 := n0_; have HB := n1_; have BK160 := n2_; have GW160 := n3_; have GE160 := n4_; have NB159_160 := n5_; have NB160_159 := n6_; clear n0_ n1_ n2_ n3_ n4_ n5_ n6_; clear hb hbox hg; have hnb7 := NB159_160.out; have hnc7 := NB160_159.out; have hcz8_0 : w6.cell? ⟨gb159, 0, none⟩ = some (.int .i64 a0_0) := (bC_ BK159.out 0).trans rfl; have hcz8_1 : w6.cell? ⟨gb159, 1, none⟩ = some (.int .i64 a0_1) := (bC_ BK159.out 1).trans rfl; have hcz8_2 : w6.cell? ⟨gb159, 2, none⟩ = some (.int .i64 a0_2) := (bC_ BK159.out 2).trans rfl; have hcz8_3 : w6.cell? ⟨gb159, 3, none⟩ = some (.int .i64 a0_3) := (bC_ BK159.out 3).trans rfl; have hcz8_4 : w6.cell? ⟨gb159, 4, none⟩ = some (.int .i64 a0_4) := (bC_ BK159.out 4).trans rfl; have hcz8_5 : w6.cell? ⟨gb159, 5, none⟩ = some (.string a0_5) := (bC_ BK159.out 5).trans rfl; have hfz8_0 := bZ_ BK159.out 0; have hfz8_1 := bZ_ BK159.out 1; have hfz8_2 := bZ_ BK159.out 2; have hfz8_3 := bZ_ BK159.out 3; have hfz8_4 := bZ_ BK159.out 4; have hfz8_5 := bZ_ BK159.out 5; have hcz9_0 : w6.cell? ⟨gb160, 0, none⟩ = some (.int .i64 a1_0) := (bC_ BK160.out 0).trans rfl; have hcz9_1 : w6.cell? ⟨gb160, 1, none⟩ = some (.int .i64 a1_1) := (bC_ BK160.out 1).trans rfl; have hcz9_2 : w6.cell? ⟨gb160, 2, none⟩ = some (.int .i64 a1_2) := (bC_ BK160.out 2).trans rfl; have hcz9_3 : w6.cell? ⟨gb160, 3, none⟩ = some (.int .i64 a1_3) := (bC_ BK160.out 3).trans rfl; have hcz9_4 : w6.cell? ⟨gb160, 4, none⟩ = some (.int .i64 a1_4) := (bC_ BK160.out 4).trans rfl; have hcz9_5 : w6.cell? ⟨gb160, 5, none⟩ = some (.string a1_5) := (bC_ BK160.out 5).trans rfl; have hfz9_0 := bZ_ BK160.out 0; have hfz9_1 := bZ_ BK160.out 1; have hfz9_2 := bZ_ BK160.out 2; have hfz9_3 := bZ_ BK160.out 3; have hfz9_4 := bZ_ BK160.out 4; have hfz9_5 := bZ_ BK160.out 5) | ((with_reducible refine gC_ (f := 103) rfl ?_); refine goesL_ (some 8) rfl rfl Try.func103 (by kernel_rfl) rfl #[.agg #[.int .i64 a0_0, .int .i64 a0_1, .int .i64 a0_2, .int .i64 a0_3, .int .i64 a0_4, .string a0_5], .agg #[.int .i64 a1_0, .int .i64 a1_1, .int .i64 a1_2, .int .i64 a1_3, .int .i64 a1_4, .string a1_5]] rfl (by (try simp only [List.map_toArray, List.map_cons, List.map_nil]); first | done | rfl) ?_; (with_reducible refine (dag_reads.calls k a0_0 a0_1 a0_2 a0_3 a0_4 a0_5 a1_0 a1_1 a1_2 a1_3 a1_4 a1_5 t161 _ A3.out).mono ?_); rintro e w10 ⟨rfl, hb⟩; refine ⟨_, rfl, ?_⟩; have n0_ := As_.mk (kB_ (g := gb159) (o := .cells #[.int .i64 a0_0, .int .i64 a0_1, .int .i64 a0_2, .int .i64 a0_3, .int .i64 a0_4, .string a0_5] 24 (0, 0)) (by (with_reducible repeat (first | refine kN_ ?_ _ | refine kD_ ?_ | refine kA_ ?_ _)); exact BK159.out) hb); have n1_ := As_.mk (kB_ (g := gb160) (o := .cells #[.int .i64 a1_0, .int .i64 a1_1, .int .i64 a1_2, .int .i64 a1_3, .int .i64 a1_4, .string a1_5] 24 (0, 0)) (by (with_reducible repeat (first | refine kN_ ?_ _ | refine kD_ ?_ | refine kA_ ?_ _)); exact BK160.out) hb); have n2_ := As_.mk (bT_ (by repeat (first | (with_reducible first | exact HB.out | apply bA_ | apply bN_ | apply b1_ | refine bS_ ?_ GE159.out | refine bS_ ?_ GE160.out) | exact HB.out)) hb); clear BK159; clear BK160; clear HB; have BK159 := n0_; have BK160 := n1_; have HB := n2_; clear n0_ n1_ n2_))
 (try simp only [Act.put, List.setIfInBounds_toArray, List.set_cons_zero, List.set_cons_succ])
 go_cut [5] (fun v5 wc => ∃ (kq : Nat) (x5_3 : Int), v5 = .int .i64 x5_3 ∧ As_ (dag_dist.j0 kq x5_3 a0_0 a0_1 a0_2 a0_3 a0_4 a0_5 a1_0 a1_1 a1_2 a1_3 a1_4 a1_5 = some r) ∧ As_ (kq ≤ k) ∧ As_ (wc.heap[gb159]? = some (.cells #[.int .i64 a0_0, .int .i64 a0_1, .int .i64 a0_2, .int .i64 a0_3, .int .i64 a0_4, .string a0_5] 24 (0, 0))) ∧ As_ (wc.heap[gb160]? = some (.cells #[.int .i64 a1_0, .int .i64 a1_1, .int .i64 a1_2, .int .i64 a1_3, .int .i64 a1_4, .string a1_5] 24 (0, 0))) ∧ As_ (Below w.heap.size w wc))
 case first =>
  have H := HC4.out
  clear HC4
  by_cases c11 : t161 = true
  ·subst c11
   have H1 : (dag_dist.j0 k 0 a0_0 a0_1 a0_2 a0_3 a0_4 a0_5 a1_0 a1_1 a1_2 a1_3 a1_4 a1_5) = some r := by rw [if_pos rfl] at H; exact H
   clear H
   have H := H1
   clear H1
   have H' := As_.mk H
   clear H
   go_wp2
   go_meet
   case rel => exact ⟨_, (0), (by first | rfl | (simp; done) | (simp [*]; done) | (simp [wrap64]; done) | (congr 1; rw [Bool.eq_iff_iff]; simp; done)), H', ⟨by first | omega | exact Nat.le_refl _⟩, ⟨by (with_reducible repeat (first | refine kN_ ?_ _ | refine kD_ ?_ | refine kA_ ?_ _)); exact BK159.out⟩, ⟨by (with_reducible repeat (first | refine kN_ ?_ _ | refine kD_ ?_ | refine kA_ ?_ _)); exact BK160.out⟩, ⟨by repeat (first | (with_reducible first | exact HB.out | apply bA_ | apply bN_ | apply b1_ | refine bS_ ?_ GE159.out | refine bS_ ?_ GE160.out) | exact HB.out)⟩⟩
  replace c11 := Bool.eq_false_iff.mpr c11
  subst c11
  have H1 : (dag_dist.j0 k (-1) a0_0 a0_1 a0_2 a0_3 a0_4 a0_5 a1_0 a1_1 a1_2 a1_3 a1_4 a1_5) = some r := by rw [if_neg (show ¬ (false = true) by decide)] at H; exact H
  clear H
  have H := H1
  clear H1
  have H' := As_.mk H
  clear H
  go_wp2
  go_meet
  case rel => exact ⟨_, ((-1)), (by first | rfl | (simp; done) | (simp [*]; done) | (simp [wrap64]; done) | (congr 1; rw [Bool.eq_iff_iff]; simp; done)), H', ⟨by first | omega | exact Nat.le_refl _⟩, ⟨by (with_reducible repeat (first | refine kN_ ?_ _ | refine kD_ ?_ | refine kA_ ?_ _)); exact BK159.out⟩, ⟨by (with_reducible repeat (first | refine kN_ ?_ _ | refine kD_ ?_ | refine kA_ ?_ _)); exact BK160.out⟩, ⟨by repeat (first | (with_reducible first | exact HB.out | apply bA_ | apply bN_ | apply b1_ | refine bS_ ?_ GE159.out | refine bS_ ?_ GE160.out) | exact HB.out)⟩⟩
 case rest =>
  clear HC4
  obtain ⟨kq, x5_3, rfl, HA, HJ3, BK159, BK160, HB⟩ := hcut
  cases kq with
  | zero => exact absurd HA.out (by simp [dag_dist.j0])
  | succ kj3 =>
   have H := HA.out
   clear HA
   simp only [dag_dist.j0] at H
   have HC12 := As_.mk H
   clear H
   go_upto_region 4 with (fail)
   go_cut [16] (fun v16 wc => ∃ (kq : Nat) (x16_11 : Bool), v16 = .bool x16_11 ∧ As_ (dag_dist.j1 kq x5_3 x16_11 a0_0 a0_1 a0_2 a0_3 a0_4 a0_5 a1_0 a1_1 a1_2 a1_3 a1_4 a1_5 = some r) ∧ As_ (kq ≤ kj3) ∧ As_ (wc.heap[gb159]? = some (.cells #[.int .i64 a0_0, .int .i64 a0_1, .int .i64 a0_2, .int .i64 a0_3, .int .i64 a0_4, .string a0_5] 24 (0, 0))) ∧ As_ (wc.heap[gb160]? = some (.cells #[.int .i64 a1_0, .int .i64 a1_1, .int .i64 a1_2, .int .i64 a1_3, .int .i64 a1_4, .string a1_5] 24 (0, 0))) ∧ As_ (Below w.heap.size w wc))
   case first =>
    have H := HC12.out
    clear HC12
    replace H := Option.bind_eq_some_iff.mp H
    obtain ⟨t162, A130, H⟩ := H
    replace H : (if t162 = true then ((isa_Effect.f kj3 a1_0).bind fun t163 => (dag_dist.j1 kj3 x5_3 t163 a0_0 a0_1 a0_2 a0_3 a0_4 a0_5 a1_0 a1_1 a1_2 a1_3 a1_4 a1_5)) else (dag_dist.j1 kj3 x5_3 false a0_0 a0_1 a0_2 a0_3 a0_4 a0_5 a1_0 a1_1 a1_2 a1_3 a1_4 a1_5)) = some r := H
    have A13 := As_.mk A130
    clear A130
    by_cases c14 : t162 = true
    ·subst c14
     have H1 : ((isa_Effect.f kj3 a1_0).bind fun t163 => (dag_dist.j1 kj3 x5_3 t163 a0_0 a0_1 a0_2 a0_3 a0_4 a0_5 a1_0 a1_1 a1_2 a1_3 a1_4 a1_5)) = some r := by rw [if_pos rfl] at H; exact H
     clear H
     have H := H1
     clear H1
     replace H := Option.bind_eq_some_iff.mp H
     obtain ⟨t163, A150, H⟩ := H
     replace H : (dag_dist.j1 kj3 x5_3 t163 a0_0 a0_1 a0_2 a0_3 a0_4 a0_5 a1_0 a1_1 a1_2 a1_3 a1_4 a1_5) = some r := H
     have A15 := As_.mk A150
     clear A150
     have H' := As_.mk H
     clear H
     have hnb16 := NB159_160.out
     have hnc16 := NB160_159.out
     have hcz17_0 : wc.cell? ⟨gb159, 0, none⟩ = some (.int .i64 a0_0) := (bC_ BK159.out 0).trans rfl
     have hcz17_1 : wc.cell? ⟨gb159, 1, none⟩ = some (.int .i64 a0_1) := (bC_ BK159.out 1).trans rfl
     have hcz17_2 : wc.cell? ⟨gb159, 2, none⟩ = some (.int .i64 a0_2) := (bC_ BK159.out 2).trans rfl
     have hcz17_3 : wc.cell? ⟨gb159, 3, none⟩ = some (.int .i64 a0_3) := (bC_ BK159.out 3).trans rfl
     have hcz17_4 : wc.cell? ⟨gb159, 4, none⟩ = some (.int .i64 a0_4) := (bC_ BK159.out 4).trans rfl
     have hcz17_5 : wc.cell? ⟨gb159, 5, none⟩ = some (.string a0_5) := (bC_ BK159.out 5).trans rfl
     have hfz17_0 := bZ_ BK159.out 0
     have hfz17_1 := bZ_ BK159.out 1
     have hfz17_2 := bZ_ BK159.out 2
     have hfz17_3 := bZ_ BK159.out 3
     have hfz17_4 := bZ_ BK159.out 4
     have hfz17_5 := bZ_ BK159.out 5
     go_wp2_with (first | ((with_reducible refine gC_ (f := 94) rfl ?_); refine goesL_ (some 11) rfl rfl Try.func94 (by kernel_rfl) rfl #[.int .i64 a0_0] rfl (by (try simp only [List.map_toArray, List.map_cons, List.map_nil]); first | done | rfl) ?_; (with_reducible refine (isa_Effect.calls kj3 a0_0 true _ A13.out).mono ?_); rintro e w' ⟨rfl, ⟨nd, rfl⟩⟩; refine ⟨_, rfl, ?_⟩; have hcz18_0 : wc.cell? ⟨gb160, 0, none⟩ = some (.int .i64 a1_0) := (bC_ BK160.out 0).trans rfl; have hcz18_1 : wc.cell? ⟨gb160, 1, none⟩ = some (.int .i64 a1_1) := (bC_ BK160.out 1).trans rfl; have hcz18_2 : wc.cell? ⟨gb160, 2, none⟩ = some (.int .i64 a1_2) := (bC_ BK160.out 2).trans rfl; have hcz18_3 : wc.cell? ⟨gb160, 3, none⟩ = some (.int .i64 a1_3) := (bC_ BK160.out 3).trans rfl; have hcz18_4 : wc.cell? ⟨gb160, 4, none⟩ = some (.int .i64 a1_4) := (bC_ BK160.out 4).trans rfl; have hcz18_5 : wc.cell? ⟨gb160, 5, none⟩ = some (.string a1_5) := (bC_ BK160.out 5).trans rfl; have hfz18_0 := bZ_ BK160.out 0; have hfz18_1 := bZ_ BK160.out 1; have hfz18_2 := bZ_ BK160.out 2; have hfz18_3 := bZ_ BK160.out 3; have hfz18_4 := bZ_ BK160.out 4; have hfz18_5 := bZ_ BK160.out 5) | (go_at_call 94; (with_reducible refine (isa_Effect.calls kj3 a1_0 t163 _ A15.out).mono ?_); rintro e w' ⟨rfl, ⟨nd, rfl⟩⟩))
     go_meet
     case rel => exact ⟨_, (t163), (by first | rfl | (simp; done) | (simp [*]; done) | (simp [wrap64]; done) | (congr 1; rw [Bool.eq_iff_iff]; simp; done)), H', ⟨by have := HJ3.out; first | omega | exact Nat.le_refl _⟩, ⟨by (with_reducible repeat (first | refine kN_ ?_ _ | refine kD_ ?_ | refine kA_ ?_ _)); exact BK159.out⟩, ⟨by (with_reducible repeat (first | refine kN_ ?_ _ | refine kD_ ?_ | refine kA_ ?_ _)); exact BK160.out⟩, ⟨by repeat (first | (with_reducible first | exact HB.out | apply bA_ | apply bN_ | apply b1_ | refine bS_ ?_ GE159.out | refine bS_ ?_ GE160.out) | exact HB.out)⟩⟩
    replace c14 := Bool.eq_false_iff.mpr c14
    subst c14
    have H1 : (dag_dist.j1 kj3 x5_3 false a0_0 a0_1 a0_2 a0_3 a0_4 a0_5 a1_0 a1_1 a1_2 a1_3 a1_4 a1_5) = some r := by rw [if_neg (show ¬ (false = true) by decide)] at H; exact H
    clear H
    have H := H1
    clear H1
    have H' := As_.mk H
    clear H
    have hnb19 := NB159_160.out
    have hnc19 := NB160_159.out
    have hcz20_0 : wc.cell? ⟨gb159, 0, none⟩ = some (.int .i64 a0_0) := (bC_ BK159.out 0).trans rfl
    have hcz20_1 : wc.cell? ⟨gb159, 1, none⟩ = some (.int .i64 a0_1) := (bC_ BK159.out 1).trans rfl
    have hcz20_2 : wc.cell? ⟨gb159, 2, none⟩ = some (.int .i64 a0_2) := (bC_ BK159.out 2).trans rfl
    have hcz20_3 : wc.cell? ⟨gb159, 3, none⟩ = some (.int .i64 a0_3) := (bC_ BK159.out 3).trans rfl
    have hcz20_4 : wc.cell? ⟨gb159, 4, none⟩ = some (.int .i64 a0_4) := (bC_ BK159.out 4).trans rfl
    have hcz20_5 : wc.cell? ⟨gb159, 5, none⟩ = some (.string a0_5) := (bC_ BK159.out 5).trans rfl
    have hfz20_0 := bZ_ BK159.out 0
    have hfz20_1 := bZ_ BK159.out 1
    have hfz20_2 := bZ_ BK159.out 2
    have hfz20_3 := bZ_ BK159.out 3
    have hfz20_4 := bZ_ BK159.out 4
    have hfz20_5 := bZ_ BK159.out 5
    go_wp2_with (first | ((with_reducible refine gC_ (f := 94) rfl ?_); refine goesL_ (some 11) rfl rfl Try.func94 (by kernel_rfl) rfl #[.int .i64 a0_0] rfl (by (try simp only [List.map_toArray, List.map_cons, List.map_nil]); first | done | rfl) ?_; (with_reducible refine (isa_Effect.calls kj3 a0_0 false _ A13.out).mono ?_); rintro e w' ⟨rfl, ⟨nd, rfl⟩⟩; refine ⟨_, rfl, ?_⟩))
    go_meet
    case rel => exact ⟨_, (false), (by first | rfl | (simp; done) | (simp [*]; done) | (simp [wrap64]; done) | (congr 1; rw [Bool.eq_iff_iff]; simp; done)), H', ⟨by have := HJ3.out; first | omega | exact Nat.le_refl _⟩, ⟨by (with_reducible repeat (first | refine kN_ ?_ _ | refine kD_ ?_ | refine kA_ ?_ _)); exact BK159.out⟩, ⟨by (with_reducible repeat (first | refine kN_ ?_ _ | refine kD_ ?_ | refine kA_ ?_ _)); exact BK160.out⟩, ⟨by repeat (first | (with_reducible first | exact HB.out | apply bA_ | apply bN_ | apply b1_ | refine bS_ ?_ GE159.out | refine bS_ ?_ GE160.out) | exact HB.out)⟩⟩
   case rest =>
    clear HC12
    obtain ⟨kq, x16_11, rfl, HA, HJ11, BK159, BK160, HB⟩ := hcut
    cases kq with
    | zero => exact absurd HA.out (by simp [dag_dist.j1])
    | succ kj11 =>
     have H := HA.out
     clear HA
     simp only [dag_dist.j1] at H
     have HC21 := As_.mk H
     clear H
     go_upto_if 16 with (fail)
     go_cut [5] (fun v5 wc => ∃ (kq : Nat) (x5_20 : Int), v5 = .int .i64 x5_20 ∧ As_ (dag_dist.j2 kq x5_20 a0_0 a0_1 a0_2 a0_3 a0_4 a0_5 a1_0 a1_1 a1_2 a1_3 a1_4 a1_5 = some r) ∧ As_ (kq ≤ kj11) ∧ As_ (wc.heap[gb159]? = some (.cells #[.int .i64 a0_0, .int .i64 a0_1, .int .i64 a0_2, .int .i64 a0_3, .int .i64 a0_4, .string a0_5] 24 (0, 0))) ∧ As_ (wc.heap[gb160]? = some (.cells #[.int .i64 a1_0, .int .i64 a1_1, .int .i64 a1_2, .int .i64 a1_3, .int .i64 a1_4, .string a1_5] 24 (0, 0))) ∧ As_ (Below w.heap.size w wc))
     case first =>
      have H := HC21.out
      clear HC21
      by_cases c22 : x16_11 = true
      ·subst c22
       have H1 : (dag_dist.j2 kj11 1 a0_0 a0_1 a0_2 a0_3 a0_4 a0_5 a1_0 a1_1 a1_2 a1_3 a1_4 a1_5) = some r := by rw [if_pos rfl] at H; exact H
       clear H
       have H := H1
       clear H1
       have H' := As_.mk H
       clear H
       go_wp2
       go_meet
       case rel => exact ⟨_, (1), (by first | rfl | (simp; done) | (simp [*]; done) | (simp [wrap64]; done) | (congr 1; rw [Bool.eq_iff_iff]; simp; done)), H', ⟨by have := HJ3.out; have := HJ11.out; first | omega | exact Nat.le_refl _⟩, ⟨by (with_reducible repeat (first | refine kN_ ?_ _ | refine kD_ ?_ | refine kA_ ?_ _)); exact BK159.out⟩, ⟨by (with_reducible repeat (first | refine kN_ ?_ _ | refine kD_ ?_ | refine kA_ ?_ _)); exact BK160.out⟩, ⟨by repeat (first | (with_reducible first | exact HB.out | apply bA_ | apply bN_ | apply b1_ | refine bS_ ?_ GE159.out | refine bS_ ?_ GE160.out) | exact HB.out)⟩⟩
      replace c22 := Bool.eq_false_iff.mpr c22
      subst c22
      have H1 : (dag_dist.j2 kj11 x5_3 a0_0 a0_1 a0_2 a0_3 a0_4 a0_5 a1_0 a1_1 a1_2 a1_3 a1_4 a1_5) = some r := by rw [if_neg (show ¬ (false = true) by decide)] at H; exact H
      clear H
      have H := H1
      clear H1
      have H' := As_.mk H
      clear H
      go_wp2
      go_meet
      case rel => exact ⟨_, (x5_3), (by first | rfl | (simp; done) | (simp [*]; done) | (simp [wrap64]; done) | (congr 1; rw [Bool.eq_iff_iff]; simp; done)), H', ⟨by have := HJ3.out; have := HJ11.out; first | omega | exact Nat.le_refl _⟩, ⟨by (with_reducible repeat (first | refine kN_ ?_ _ | refine kD_ ?_ | refine kA_ ?_ _)); exact BK159.out⟩, ⟨by (with_reducible repeat (first | refine kN_ ?_ _ | refine kD_ ?_ | refine kA_ ?_ _)); exact BK160.out⟩, ⟨by repeat (first | (with_reducible first | exact HB.out | apply bA_ | apply bN_ | apply b1_ | refine bS_ ?_ GE159.out | refine bS_ ?_ GE160.out) | exact HB.out)⟩⟩
     case rest =>
      clear HC21
      obtain ⟨kq, x5_20, rfl, HA, HJ20, BK159, BK160, HB⟩ := hcut
      cases kq with
      | zero => exact absurd HA.out (by simp [dag_dist.j2])
      | succ kj20 =>
       have H := HA.out
       clear HA
       simp only [dag_dist.j2] at H
       have HC23 := As_.mk H
       clear H
       go_upto_region 6 with (fail)
       go_cut [31] (fun v31 wc => ∃ (kq : Nat) (x31_22 : Bool), v31 = .bool x31_22 ∧ As_ (dag_dist.j3 kq x5_20 x31_22 a0_0 a0_1 a0_2 a0_3 a0_4 a0_5 = some r) ∧ As_ (kq ≤ kj20) ∧ As_ (wc.heap[gb159]? = some (.cells #[.int .i64 a0_0, .int .i64 a0_1, .int .i64 a0_2, .int .i64 a0_3, .int .i64 a0_4, .string a0_5] 24 (0, 0))) ∧ As_ (wc.heap[gb160]? = some (.cells #[.int .i64 a1_0, .int .i64 a1_1, .int .i64 a1_2, .int .i64 a1_3, .int .i64 a1_4, .string a1_5] 24 (0, 0))) ∧ As_ (Below w.heap.size w wc))
       case first =>
        have H := HC23.out
        clear HC23
        replace H := Option.bind_eq_some_iff.mp H
        obtain ⟨t164, A240, H⟩ := H
        replace H : (if t164 = true then (dag_dist.j3 kj20 x5_20 true a0_0 a0_1 a0_2 a0_3 a0_4 a0_5) else ((isa_Shape.f kj20 a1_0).bind fun t165 => ((isa_HasD.f t165).bind fun t166 => (if t166 = true then ((dag_writes.f kj20 a0_0 a0_1 a0_2 a0_3 a0_4 a0_5 a1_1).bind fun t167 => (dag_dist.j3 kj20 x5_20 t167 a0_0 a0_1 a0_2 a0_3 a0_4 a0_5)) else (dag_dist.j3 kj20 x5_20 false a0_0 a0_1 a0_2 a0_3 a0_4 a0_5))))) = some r := H
        have A24 := As_.mk A240
        clear A240
        by_cases c25 : t164 = true
        ·subst c25
         have H1 : (dag_dist.j3 kj20 x5_20 true a0_0 a0_1 a0_2 a0_3 a0_4 a0_5) = some r := by rw [if_pos rfl] at H; exact H
         clear H
         have H := H1
         clear H1
         have H' := As_.mk H
         clear H
         have hnb26 := NB160_159.out
         have hnc26 := NB159_160.out
         have hcz27_0 : wc.cell? ⟨gb160, 0, none⟩ = some (.int .i64 a1_0) := (bC_ BK160.out 0).trans rfl
         have hcz27_1 : wc.cell? ⟨gb160, 1, none⟩ = some (.int .i64 a1_1) := (bC_ BK160.out 1).trans rfl
         have hcz27_2 : wc.cell? ⟨gb160, 2, none⟩ = some (.int .i64 a1_2) := (bC_ BK160.out 2).trans rfl
         have hcz27_3 : wc.cell? ⟨gb160, 3, none⟩ = some (.int .i64 a1_3) := (bC_ BK160.out 3).trans rfl
         have hcz27_4 : wc.cell? ⟨gb160, 4, none⟩ = some (.int .i64 a1_4) := (bC_ BK160.out 4).trans rfl
         have hcz27_5 : wc.cell? ⟨gb160, 5, none⟩ = some (.string a1_5) := (bC_ BK160.out 5).trans rfl
         have hfz27_0 := bZ_ BK160.out 0
         have hfz27_1 := bZ_ BK160.out 1
         have hfz27_2 := bZ_ BK160.out 2
         have hfz27_3 := bZ_ BK160.out 3
         have hfz27_4 := bZ_ BK160.out 4
         have hfz27_5 := bZ_ BK160.out 5
         have hcz28_0 : wc.cell? ⟨gb159, 0, none⟩ = some (.int .i64 a0_0) := (bC_ BK159.out 0).trans rfl
         have hcz28_1 : wc.cell? ⟨gb159, 1, none⟩ = some (.int .i64 a0_1) := (bC_ BK159.out 1).trans rfl
         have hcz28_2 : wc.cell? ⟨gb159, 2, none⟩ = some (.int .i64 a0_2) := (bC_ BK159.out 2).trans rfl
         have hcz28_3 : wc.cell? ⟨gb159, 3, none⟩ = some (.int .i64 a0_3) := (bC_ BK159.out 3).trans rfl
         have hcz28_4 : wc.cell? ⟨gb159, 4, none⟩ = some (.int .i64 a0_4) := (bC_ BK159.out 4).trans rfl
         have hcz28_5 : wc.cell? ⟨gb159, 5, none⟩ = some (.string a0_5) := (bC_ BK159.out 5).trans rfl
         have hfz28_0 := bZ_ BK159.out 0
         have hfz28_1 := bZ_ BK159.out 1
         have hfz28_2 := bZ_ BK159.out 2
         have hfz28_3 := bZ_ BK159.out 3
         have hfz28_4 := bZ_ BK159.out 4
         have hfz28_5 := bZ_ BK159.out 5
         go_wp2_with (first | ((with_reducible refine gC_ (f := 103) rfl ?_); refine goesL_ (some 19) rfl rfl Try.func103 (by kernel_rfl) rfl #[.agg #[.int .i64 a1_0, .int .i64 a1_1, .int .i64 a1_2, .int .i64 a1_3, .int .i64 a1_4, .string a1_5], .agg #[.int .i64 a0_0, .int .i64 a0_1, .int .i64 a0_2, .int .i64 a0_3, .int .i64 a0_4, .string a0_5]] rfl (by (try simp only [List.map_toArray, List.map_cons, List.map_nil]); first | done | rfl) ?_; (with_reducible refine (dag_reads.calls kj20 a1_0 a1_1 a1_2 a1_3 a1_4 a1_5 a0_0 a0_1 a0_2 a0_3 a0_4 a0_5 true _ A24.out).mono ?_); rintro e w29 ⟨rfl, hb⟩; refine ⟨_, rfl, ?_⟩; have n0_ := As_.mk (kB_ (g := gb159) (o := .cells #[.int .i64 a0_0, .int .i64 a0_1, .int .i64 a0_2, .int .i64 a0_3, .int .i64 a0_4, .string a0_5] 24 (0, 0)) (by (with_reducible repeat (first | refine kN_ ?_ _ | refine kD_ ?_ | refine kA_ ?_ _)); exact BK159.out) hb); have n1_ := As_.mk (kB_ (g := gb160) (o := .cells #[.int .i64 a1_0, .int .i64 a1_1, .int .i64 a1_2, .int .i64 a1_3, .int .i64 a1_4, .string a1_5] 24 (0, 0)) (by (with_reducible repeat (first | refine kN_ ?_ _ | refine kD_ ?_ | refine kA_ ?_ _)); exact BK160.out) hb); have n2_ := As_.mk (bT_ (by repeat (first | (with_reducible first | exact HB.out | apply bA_ | apply bN_ | apply b1_ | refine bS_ ?_ GE159.out | refine bS_ ?_ GE160.out) | exact HB.out)) hb); clear BK159; clear BK160; clear HB; have BK159 := n0_; have BK160 := n1_; have HB := n2_; clear n0_ n1_ n2_))
         go_meet
         case rel => exact ⟨_, (true), (by first | rfl | (simp; done) | (simp [*]; done) | (simp [wrap64]; done) | (congr 1; rw [Bool.eq_iff_iff]; simp; done)), H', ⟨by have := HJ3.out; have := HJ11.out; have := HJ20.out; first | omega | exact Nat.le_refl _⟩, ⟨by (with_reducible repeat (first | refine kN_ ?_ _ | refine kD_ ?_ | refine kA_ ?_ _)); exact BK159.out⟩, ⟨by (with_reducible repeat (first | refine kN_ ?_ _ | refine kD_ ?_ | refine kA_ ?_ _)); exact BK160.out⟩, ⟨by repeat (first | (with_reducible first | exact HB.out | apply bA_ | apply bN_ | apply b1_ | refine bS_ ?_ GE159.out | refine bS_ ?_ GE160.out) | exact HB.out)⟩⟩
        replace c25 := Bool.eq_false_iff.mpr c25
        subst c25
        have H1 : ((isa_Shape.f kj20 a1_0).bind fun t165 => ((isa_HasD.f t165).bind fun t166 => (if t166 = true then ((dag_writes.f kj20 a0_0 a0_1 a0_2 a0_3 a0_4 a0_5 a1_1).bind fun t167 => (dag_dist.j3 kj20 x5_20 t167 a0_0 a0_1 a0_2 a0_3 a0_4 a0_5)) else (dag_dist.j3 kj20 x5_20 false a0_0 a0_1 a0_2 a0_3 a0_4 a0_5)))) = some r := by rw [if_neg (show ¬ (false = true) by decide)] at H; exact H
        clear H
        have H := H1
        clear H1
        replace H := Option.bind_eq_some_iff.mp H
        obtain ⟨t165, A300, H⟩ := H
        replace H : ((isa_HasD.f t165).bind fun t166 => (if t166 = true then ((dag_writes.f kj20 a0_0 a0_1 a0_2 a0_3 a0_4 a0_5 a1_1).bind fun t167 => (dag_dist.j3 kj20 x5_20 t167 a0_0 a0_1 a0_2 a0_3 a0_4 a0_5)) else (dag_dist.j3 kj20 x5_20 false a0_0 a0_1 a0_2 a0_3 a0_4 a0_5))) = some r := H
        have A30 := As_.mk A300
        clear A300
        replace H := Option.bind_eq_some_iff.mp H
        obtain ⟨t166, A310, H⟩ := H
        replace H : (if t166 = true then ((dag_writes.f kj20 a0_0 a0_1 a0_2 a0_3 a0_4 a0_5 a1_1).bind fun t167 => (dag_dist.j3 kj20 x5_20 t167 a0_0 a0_1 a0_2 a0_3 a0_4 a0_5)) else (dag_dist.j3 kj20 x5_20 false a0_0 a0_1 a0_2 a0_3 a0_4 a0_5)) = some r := H
        have A31 := As_.mk A310
        clear A310
        by_cases c32 : t166 = true
        ·subst c32
         have H1 : ((dag_writes.f kj20 a0_0 a0_1 a0_2 a0_3 a0_4 a0_5 a1_1).bind fun t167 => (dag_dist.j3 kj20 x5_20 t167 a0_0 a0_1 a0_2 a0_3 a0_4 a0_5)) = some r := by rw [if_pos rfl] at H; exact H
         clear H
         have H := H1
         clear H1
         replace H := Option.bind_eq_some_iff.mp H
         obtain ⟨t167, A330, H⟩ := H
         replace H : (dag_dist.j3 kj20 x5_20 t167 a0_0 a0_1 a0_2 a0_3 a0_4 a0_5) = some r := H
         have A33 := As_.mk A330
         clear A330
         have H' := As_.mk H
         clear H
         have hnb34 := NB160_159.out
         have hnc34 := NB159_160.out
         have hcz35_0 : wc.cell? ⟨gb160, 0, none⟩ = some (.int .i64 a1_0) := (bC_ BK160.out 0).trans rfl
         have hcz35_1 : wc.cell? ⟨gb160, 1, none⟩ = some (.int .i64 a1_1) := (bC_ BK160.out 1).trans rfl
         have hcz35_2 : wc.cell? ⟨gb160, 2, none⟩ = some (.int .i64 a1_2) := (bC_ BK160.out 2).trans rfl
         have hcz35_3 : wc.cell? ⟨gb160, 3, none⟩ = some (.int .i64 a1_3) := (bC_ BK160.out 3).trans rfl
         have hcz35_4 : wc.cell? ⟨gb160, 4, none⟩ = some (.int .i64 a1_4) := (bC_ BK160.out 4).trans rfl
         have hcz35_5 : wc.cell? ⟨gb160, 5, none⟩ = some (.string a1_5) := (bC_ BK160.out 5).trans rfl
         have hfz35_0 := bZ_ BK160.out 0
         have hfz35_1 := bZ_ BK160.out 1
         have hfz35_2 := bZ_ BK160.out 2
         have hfz35_3 := bZ_ BK160.out 3
         have hfz35_4 := bZ_ BK160.out 4
         have hfz35_5 := bZ_ BK160.out 5
         have hcz36_0 : wc.cell? ⟨gb159, 0, none⟩ = some (.int .i64 a0_0) := (bC_ BK159.out 0).trans rfl
         have hcz36_1 : wc.cell? ⟨gb159, 1, none⟩ = some (.int .i64 a0_1) := (bC_ BK159.out 1).trans rfl
         have hcz36_2 : wc.cell? ⟨gb159, 2, none⟩ = some (.int .i64 a0_2) := (bC_ BK159.out 2).trans rfl
         have hcz36_3 : wc.cell? ⟨gb159, 3, none⟩ = some (.int .i64 a0_3) := (bC_ BK159.out 3).trans rfl
         have hcz36_4 : wc.cell? ⟨gb159, 4, none⟩ = some (.int .i64 a0_4) := (bC_ BK159.out 4).trans rfl
         have hcz36_5 : wc.cell? ⟨gb159, 5, none⟩ = some (.string a0_5) := (bC_ BK159.out 5).trans rfl
         have hfz36_0 := bZ_ BK159.out 0
         have hfz36_1 := bZ_ BK159.out 1
         have hfz36_2 := bZ_ BK159.out 2
         have hfz36_3 := bZ_ BK159.out 3
         have hfz36_4 := bZ_ BK159.out 4
         have hfz36_5 := bZ_ BK159.out 5
         go_wp2_with (first | ((with_reducible refine gC_ (f := 103) rfl ?_); refine goesL_ (some 19) rfl rfl Try.func103 (by kernel_rfl) rfl #[.agg #[.int .i64 a1_0, .int .i64 a1_1, .int .i64 a1_2, .int .i64 a1_3, .int .i64 a1_4, .string a1_5], .agg #[.int .i64 a0_0, .int .i64 a0_1, .int .i64 a0_2, .int .i64 a0_3, .int .i64 a0_4, .string a0_5]] rfl (by (try simp only [List.map_toArray, List.map_cons, List.map_nil]); first | done | rfl) ?_; (with_reducible refine (dag_reads.calls kj20 a1_0 a1_1 a1_2 a1_3 a1_4 a1_5 a0_0 a0_1 a0_2 a0_3 a0_4 a0_5 false _ A24.out).mono ?_); rintro e w37 ⟨rfl, hb⟩; refine ⟨_, rfl, ?_⟩; have n0_ := As_.mk (kB_ (g := gb159) (o := .cells #[.int .i64 a0_0, .int .i64 a0_1, .int .i64 a0_2, .int .i64 a0_3, .int .i64 a0_4, .string a0_5] 24 (0, 0)) (by (with_reducible repeat (first | refine kN_ ?_ _ | refine kD_ ?_ | refine kA_ ?_ _)); exact BK159.out) hb); have n1_ := As_.mk (kB_ (g := gb160) (o := .cells #[.int .i64 a1_0, .int .i64 a1_1, .int .i64 a1_2, .int .i64 a1_3, .int .i64 a1_4, .string a1_5] 24 (0, 0)) (by (with_reducible repeat (first | refine kN_ ?_ _ | refine kD_ ?_ | refine kA_ ?_ _)); exact BK160.out) hb); have n2_ := As_.mk (bT_ (by repeat (first | (with_reducible first | exact HB.out | apply bA_ | apply bN_ | apply b1_ | refine bS_ ?_ GE159.out | refine bS_ ?_ GE160.out) | exact HB.out)) hb); clear BK159; clear BK160; clear HB; have BK159 := n0_; have BK160 := n1_; have HB := n2_; clear n0_ n1_ n2_; have hcz38_0 : w37.cell? ⟨gb160, 0, none⟩ = some (.int .i64 a1_0) := (bC_ BK160.out 0).trans rfl; have hcz38_1 : w37.cell? ⟨gb160, 1, none⟩ = some (.int .i64 a1_1) := (bC_ BK160.out 1).trans rfl; have hcz38_2 : w37.cell? ⟨gb160, 2, none⟩ = some (.int .i64 a1_2) := (bC_ BK160.out 2).trans rfl; have hcz38_3 : w37.cell? ⟨gb160, 3, none⟩ = some (.int .i64 a1_3) := (bC_ BK160.out 3).trans rfl; have hcz38_4 : w37.cell? ⟨gb160, 4, none⟩ = some (.int .i64 a1_4) := (bC_ BK160.out 4).trans rfl; have hcz38_5 : w37.cell? ⟨gb160, 5, none⟩ = some (.string a1_5) := (bC_ BK160.out 5).trans rfl; have hfz38_0 := bZ_ BK160.out 0; have hfz38_1 := bZ_ BK160.out 1; have hfz38_2 := bZ_ BK160.out 2; have hfz38_3 := bZ_ BK160.out 3; have hfz38_4 := bZ_ BK160.out 4; have hfz38_5 := bZ_ BK160.out 5) | (go_at_call 97; (with_reducible refine (isa_Shape.calls kj20 a1_0 t165 _ A30.out).mono ?_); rintro e w' ⟨rfl, ⟨nd, rfl⟩⟩) | (go_at_call 99; (with_reducible refine (isa_HasD.calls t165 true _ A31.out).mono ?_); rintro e w' ⟨rfl, ⟨nd, rfl⟩⟩; have hcz39_0 : w37.cell? ⟨gb159, 0, none⟩ = some (.int .i64 a0_0) := (bC_ BK159.out 0).trans rfl; have hcz39_1 : w37.cell? ⟨gb159, 1, none⟩ = some (.int .i64 a0_1) := (bC_ BK159.out 1).trans rfl; have hcz39_2 : w37.cell? ⟨gb159, 2, none⟩ = some (.int .i64 a0_2) := (bC_ BK159.out 2).trans rfl; have hcz39_3 : w37.cell? ⟨gb159, 3, none⟩ = some (.int .i64 a0_3) := (bC_ BK159.out 3).trans rfl; have hcz39_4 : w37.cell? ⟨gb159, 4, none⟩ = some (.int .i64 a0_4) := (bC_ BK159.out 4).trans rfl; have hcz39_5 : w37.cell? ⟨gb159, 5, none⟩ = some (.string a0_5) := (bC_ BK159.out 5).trans rfl; have hfz39_0 := bZ_ BK159.out 0; have hfz39_1 := bZ_ BK159.out 1; have hfz39_2 := bZ_ BK159.out 2; have hfz39_3 := bZ_ BK159.out 3; have hfz39_4 := bZ_ BK159.out 4; have hfz39_5 := bZ_ BK159.out 5) | (go_at_call 115; (with_reducible refine (dag_writes.calls kj20 a0_0 a0_1 a0_2 a0_3 a0_4 a0_5 a1_1 t167 _ A33.out).mono ?_); rintro e w40 ⟨rfl, hb⟩; have n0_ := As_.mk (kB_ (g := gb159) (o := .cells #[.int .i64 a0_0, .int .i64 a0_1, .int .i64 a0_2, .int .i64 a0_3, .int .i64 a0_4, .string a0_5] 24 (0, 0)) (by (with_reducible repeat (first | refine kN_ ?_ _ | refine kD_ ?_ | refine kA_ ?_ _)); exact BK159.out) hb); have n1_ := As_.mk (kB_ (g := gb160) (o := .cells #[.int .i64 a1_0, .int .i64 a1_1, .int .i64 a1_2, .int .i64 a1_3, .int .i64 a1_4, .string a1_5] 24 (0, 0)) (by (with_reducible repeat (first | refine kN_ ?_ _ | refine kD_ ?_ | refine kA_ ?_ _)); exact BK160.out) hb); have n2_ := As_.mk (bT_ (by repeat (first | (with_reducible first | exact HB.out | apply bA_ | apply bN_ | apply b1_ | refine bS_ ?_ GE159.out | refine bS_ ?_ GE160.out) | exact HB.out)) hb); clear BK159; clear BK160; clear HB; have BK159 := n0_; have BK160 := n1_; have HB := n2_; clear n0_ n1_ n2_))
         go_meet
         case rel => exact ⟨_, (t167), (by first | rfl | (simp; done) | (simp [*]; done) | (simp [wrap64]; done) | (congr 1; rw [Bool.eq_iff_iff]; simp; done)), H', ⟨by have := HJ3.out; have := HJ11.out; have := HJ20.out; first | omega | exact Nat.le_refl _⟩, ⟨by (with_reducible repeat (first | refine kN_ ?_ _ | refine kD_ ?_ | refine kA_ ?_ _)); exact BK159.out⟩, ⟨by (with_reducible repeat (first | refine kN_ ?_ _ | refine kD_ ?_ | refine kA_ ?_ _)); exact BK160.out⟩, ⟨by repeat (first | (with_reducible first | exact HB.out | apply bA_ | apply bN_ | apply b1_ | refine bS_ ?_ GE159.out | refine bS_ ?_ GE160.out) | exact HB.out)⟩⟩
        replace c32 := Bool.eq_false_iff.mpr c32
        subst c32
        have H1 : (dag_dist.j3 kj20 x5_20 false a0_0 a0_1 a0_2 a0_3 a0_4 a0_5) = some r := by rw [if_neg (show ¬ (false = true) by decide)] at H; exact H
        clear H
        have H := H1
        clear H1
        have H' := As_.mk H
        clear H
        have hnb41 := NB160_159.out
        have hnc41 := NB159_160.out
        have hcz42_0 : wc.cell? ⟨gb160, 0, none⟩ = some (.int .i64 a1_0) := (bC_ BK160.out 0).trans rfl
        have hcz42_1 : wc.cell? ⟨gb160, 1, none⟩ = some (.int .i64 a1_1) := (bC_ BK160.out 1).trans rfl
        have hcz42_2 : wc.cell? ⟨gb160, 2, none⟩ = some (.int .i64 a1_2) := (bC_ BK160.out 2).trans rfl
        have hcz42_3 : wc.cell? ⟨gb160, 3, none⟩ = some (.int .i64 a1_3) := (bC_ BK160.out 3).trans rfl
        have hcz42_4 : wc.cell? ⟨gb160, 4, none⟩ = some (.int .i64 a1_4) := (bC_ BK160.out 4).trans rfl
        have hcz42_5 : wc.cell? ⟨gb160, 5, none⟩ = some (.string a1_5) := (bC_ BK160.out 5).trans rfl
        have hfz42_0 := bZ_ BK160.out 0
        have hfz42_1 := bZ_ BK160.out 1
        have hfz42_2 := bZ_ BK160.out 2
        have hfz42_3 := bZ_ BK160.out 3
        have hfz42_4 := bZ_ BK160.out 4
        have hfz42_5 := bZ_ BK160.out 5
        have hcz43_0 : wc.cell? ⟨gb159, 0, none⟩ = some (.int .i64 a0_0) := (bC_ BK159.out 0).trans rfl
        have hcz43_1 : wc.cell? ⟨gb159, 1, none⟩ = some (.int .i64 a0_1) := (bC_ BK159.out 1).trans rfl
        have hcz43_2 : wc.cell? ⟨gb159, 2, none⟩ = some (.int .i64 a0_2) := (bC_ BK159.out 2).trans rfl
        have hcz43_3 : wc.cell? ⟨gb159, 3, none⟩ = some (.int .i64 a0_3) := (bC_ BK159.out 3).trans rfl
        have hcz43_4 : wc.cell? ⟨gb159, 4, none⟩ = some (.int .i64 a0_4) := (bC_ BK159.out 4).trans rfl
        have hcz43_5 : wc.cell? ⟨gb159, 5, none⟩ = some (.string a0_5) := (bC_ BK159.out 5).trans rfl
        have hfz43_0 := bZ_ BK159.out 0
        have hfz43_1 := bZ_ BK159.out 1
        have hfz43_2 := bZ_ BK159.out 2
        have hfz43_3 := bZ_ BK159.out 3
        have hfz43_4 := bZ_ BK159.out 4
        have hfz43_5 := bZ_ BK159.out 5
        go_wp2_with (first | ((with_reducible refine gC_ (f := 103) rfl ?_); refine goesL_ (some 19) rfl rfl Try.func103 (by kernel_rfl) rfl #[.agg #[.int .i64 a1_0, .int .i64 a1_1, .int .i64 a1_2, .int .i64 a1_3, .int .i64 a1_4, .string a1_5], .agg #[.int .i64 a0_0, .int .i64 a0_1, .int .i64 a0_2, .int .i64 a0_3, .int .i64 a0_4, .string a0_5]] rfl (by (try simp only [List.map_toArray, List.map_cons, List.map_nil]); first | done | rfl) ?_; (with_reducible refine (dag_reads.calls kj20 a1_0 a1_1 a1_2 a1_3 a1_4 a1_5 a0_0 a0_1 a0_2 a0_3 a0_4 a0_5 false _ A24.out).mono ?_); rintro e w44 ⟨rfl, hb⟩; refine ⟨_, rfl, ?_⟩; have n0_ := As_.mk (kB_ (g := gb159) (o := .cells #[.int .i64 a0_0, .int .i64 a0_1, .int .i64 a0_2, .int .i64 a0_3, .int .i64 a0_4, .string a0_5] 24 (0, 0)) (by (with_reducible repeat (first | refine kN_ ?_ _ | refine kD_ ?_ | refine kA_ ?_ _)); exact BK159.out) hb); have n1_ := As_.mk (kB_ (g := gb160) (o := .cells #[.int .i64 a1_0, .int .i64 a1_1, .int .i64 a1_2, .int .i64 a1_3, .int .i64 a1_4, .string a1_5] 24 (0, 0)) (by (with_reducible repeat (first | refine kN_ ?_ _ | refine kD_ ?_ | refine kA_ ?_ _)); exact BK160.out) hb); have n2_ := As_.mk (bT_ (by repeat (first | (with_reducible first | exact HB.out | apply bA_ | apply bN_ | apply b1_ | refine bS_ ?_ GE159.out | refine bS_ ?_ GE160.out) | exact HB.out)) hb); clear BK159; clear BK160; clear HB; have BK159 := n0_; have BK160 := n1_; have HB := n2_; clear n0_ n1_ n2_; have hcz45_0 : w44.cell? ⟨gb160, 0, none⟩ = some (.int .i64 a1_0) := (bC_ BK160.out 0).trans rfl; have hcz45_1 : w44.cell? ⟨gb160, 1, none⟩ = some (.int .i64 a1_1) := (bC_ BK160.out 1).trans rfl; have hcz45_2 : w44.cell? ⟨gb160, 2, none⟩ = some (.int .i64 a1_2) := (bC_ BK160.out 2).trans rfl; have hcz45_3 : w44.cell? ⟨gb160, 3, none⟩ = some (.int .i64 a1_3) := (bC_ BK160.out 3).trans rfl; have hcz45_4 : w44.cell? ⟨gb160, 4, none⟩ = some (.int .i64 a1_4) := (bC_ BK160.out 4).trans rfl; have hcz45_5 : w44.cell? ⟨gb160, 5, none⟩ = some (.string a1_5) := (bC_ BK160.out 5).trans rfl; have hfz45_0 := bZ_ BK160.out 0; have hfz45_1 := bZ_ BK160.out 1; have hfz45_2 := bZ_ BK160.out 2; have hfz45_3 := bZ_ BK160.out 3; have hfz45_4 := bZ_ BK160.out 4; have hfz45_5 := bZ_ BK160.out 5) | (go_at_call 97; (with_reducible refine (isa_Shape.calls kj20 a1_0 t165 _ A30.out).mono ?_); rintro e w' ⟨rfl, ⟨nd, rfl⟩⟩) | (go_at_call 99; (with_reducible refine (isa_HasD.calls t165 false _ A31.out).mono ?_); rintro e w' ⟨rfl, ⟨nd, rfl⟩⟩))
        go_meet
        case rel => exact ⟨_, (false), (by first | rfl | (simp; done) | (simp [*]; done) | (simp [wrap64]; done) | (congr 1; rw [Bool.eq_iff_iff]; simp; done)), H', ⟨by have := HJ3.out; have := HJ11.out; have := HJ20.out; first | omega | exact Nat.le_refl _⟩, ⟨by (with_reducible repeat (first | refine kN_ ?_ _ | refine kD_ ?_ | refine kA_ ?_ _)); exact BK159.out⟩, ⟨by (with_reducible repeat (first | refine kN_ ?_ _ | refine kD_ ?_ | refine kA_ ?_ _)); exact BK160.out⟩, ⟨by repeat (first | (with_reducible first | exact HB.out | apply bA_ | apply bN_ | apply b1_ | refine bS_ ?_ GE159.out | refine bS_ ?_ GE160.out) | exact HB.out)⟩⟩
       case rest =>
        clear HC23
        obtain ⟨kq, x31_22, rfl, HA, HJ22, BK159, BK160, HB⟩ := hcut
        cases kq with
        | zero => exact absurd HA.out (by simp [dag_dist.j3])
        | succ kj22 =>
         have H := HA.out
         clear HA
         simp only [dag_dist.j3] at H
         by_cases c46 : x31_22 = true
         ·subst c46
          have H1 : ((isa_Late.f kj22 a0_0).bind fun t168 => (some (mx x5_20 t168))) = some r := by rw [if_pos rfl] at H; exact H
          clear H
          have H := H1
          clear H1
          replace H := Option.bind_eq_some_iff.mp H
          obtain ⟨t168, A470, H⟩ := H
          replace H : (some (mx x5_20 t168)) = some r := H
          have A47 := As_.mk A470
          clear A470
          obtain ⟨ji48, hji48⟩ : ∃ j_ : Int, (mx x5_20 t168) = j_ := ⟨_, rfl⟩
          replace H : (some ji48) = some r := by first | (rw [hji48] at H; exact H) | (simp only [hji48] at H ⊢; exact H)
          (try rw [hji48] at A47)
          have hji48_ : (if x5_20 < t168 then t168 else x5_20) = ji48 := hji48
          obtain rfl := Option.some.inj H
          have hnb49 := NB159_160.out
          have hnc49 := NB160_159.out
          have hcz50_0 : wc.cell? ⟨gb159, 0, none⟩ = some (.int .i64 a0_0) := (bC_ BK159.out 0).trans rfl
          have hcz50_1 : wc.cell? ⟨gb159, 1, none⟩ = some (.int .i64 a0_1) := (bC_ BK159.out 1).trans rfl
          have hcz50_2 : wc.cell? ⟨gb159, 2, none⟩ = some (.int .i64 a0_2) := (bC_ BK159.out 2).trans rfl
          have hcz50_3 : wc.cell? ⟨gb159, 3, none⟩ = some (.int .i64 a0_3) := (bC_ BK159.out 3).trans rfl
          have hcz50_4 : wc.cell? ⟨gb159, 4, none⟩ = some (.int .i64 a0_4) := (bC_ BK159.out 4).trans rfl
          have hcz50_5 : wc.cell? ⟨gb159, 5, none⟩ = some (.string a0_5) := (bC_ BK159.out 5).trans rfl
          have hfz50_0 := bZ_ BK159.out 0
          have hfz50_1 := bZ_ BK159.out 1
          have hfz50_2 := bZ_ BK159.out 2
          have hfz50_3 := bZ_ BK159.out 3
          have hfz50_4 := bZ_ BK159.out 4
          have hfz50_5 := bZ_ BK159.out 5
          go_wp2_with (first | ((with_reducible refine gC_ (f := 92) rfl ?_); refine goesL_ (some 35) rfl rfl Try.func92 (by kernel_rfl) rfl #[.int .i64 a0_0] rfl (by (try simp only [List.map_toArray, List.map_cons, List.map_nil]); first | done | rfl) ?_; (with_reducible refine (isa_Late.calls kj22 a0_0 t168 _ A47.out).mono ?_); rintro e w' ⟨rfl, ⟨nd, rfl⟩⟩; refine ⟨_, rfl, ?_⟩))
          go_ret
          exact ⟨by first | rfl | (simp [eN_, eS_] <;> rfl) | (simp only [← hji48]; first | rfl | (simp [eN_, eS_] <;> rfl)) | (simp [*, eN_, eS_] <;> rfl), by repeat (first | (with_reducible first | exact HB.out | apply bA_ | apply bN_ | apply b1_ | refine bS_ ?_ GE159.out | refine bS_ ?_ GE160.out) | exact HB.out)⟩
         replace c46 := Bool.eq_false_iff.mpr c46
         subst c46
         have H1 : (some x5_20) = some r := by rw [if_neg (show ¬ (false = true) by decide)] at H; exact H
         clear H
         have H := H1
         clear H1
         obtain rfl := Option.some.inj H
         go_wp2
         go_ret
         exact ⟨by first | rfl | (simp [eN_, eS_] <;> rfl) | (simp [*, eN_, eS_] <;> rfl), by repeat (first | (with_reducible first | exact HB.out | apply bA_ | apply bN_ | apply b1_ | refine bS_ ?_ GE159.out | refine bS_ ?_ GE160.out) | exact HB.out)⟩
end Go.Proofs.Ytibfkkjkahpobaa.PDag
