-- the texts that this claim needs, out of this session's and its print's (wip/shrink.py)
import Derived.Test.YtibfkkjkahpobaaPDagx0L
import Derived.Test.YtibfkkjkahpobaaPDagx10L
import Derived.Test.YtibfkkjkahpobaaPDagx11L
namespace Go.Proofs.Ytibfkkjkahpobaa.PDag
open Go.RowKit Go.Proofs.YtibfkkjkahpobaaW.PrintWords Go.Proofs.YtibfkkjkahpobaaW.PrintLast Go.Proofs.YtibfkkjkahpobaaW.PrintMore
attribute [local go_sem] max2_int min2_int max_two min_two max_three min_three max_four min_four   -- for this text's walks alone
set_option linter.unusedVariables false
set_option linter.unusedSimpArgs false
mutual
def r13_Last.l0 : Nat → List (S24) → List Int → Int → Bool → Int → Int → Int → Int → Int → Int → ByteArray → Option (Int)
  | 0, _, _, _, _, _, _, _, _, _, _, _ => none
  | k + 1, x0, x2, x7, x8, x9, x565a, x565b, x565c, x565d, x565e, x565f => if x9 < (x0.length : Int) then (if 0 ≤ x9 then (if x9 < (x2.length : Int) then ((r3_Latency.f k ((q24 x0 x9).f0)).bind fun t567 => ((r3_Writes.f ((q24 x0 x9).f0) ((q24 x0 x9).f1) ((q24 x0 x9).f2) ((q24 x0 x9).f3) ((q24 x0 x9).f4) ((q24 x0 x9).f5)).bind fun t569 => (if t569 ≥ 0 then ((r3_Reads.f k x565a x565b x565c x565d x565e x565f).bind fun t570 => ((r0_In.f k t570 t569).bind fun t573 => (r13_Last.j1 k x0 x2 x7 x8 x9 (rd x2 x9) t567 (decide (t573 ≥ 0)) x565a x565b x565c x565d x565e x565f))) else (r13_Last.j1 k x0 x2 x7 x8 x9 (rd x2 x9) t567 false x565a x565b x565c x565d x565e x565f)))) else (none)) else (none)) else (some x7)
def r13_Last.j1 : Nat → List (S24) → List Int → Int → Bool → Int → Int → Int → Bool → Int → Int → Int → Int → Int → ByteArray → Option (Int)
  | 0, _, _, _, _, _, _, _, _, _, _, _, _, _, _ => none
  | k + 1, x0, x2, x7, x8, x9, x10, x11, x48, x565a, x565b, x565c, x565d, x565e, x565f => if x48 = true then (r13_Last.j2 k x0 x2 (mx x7 (wrap64 (x10 + x11))) x8 x9 x10 x11 x565a x565b x565c x565d x565e x565f) else (r13_Last.j2 k x0 x2 x7 x8 x9 x10 x11 x565a x565b x565c x565d x565e x565f)
def r13_Last.j2 : Nat → List (S24) → List Int → Int → Bool → Int → Int → Int → Int → Int → Int → Int → Int → ByteArray → Option (Int)
  | 0, _, _, _, _, _, _, _, _, _, _, _, _, _ => none
  | k + 1, x0, x2, x7, x8, x9, x10, x11, x565a, x565b, x565c, x565d, x565e, x565f => if x8 = true then (r13_Last.j3 k x0 x2 x7 x8 x9 x10 x11 true x565a x565b x565c x565d x565e x565f) else ((r3_Effect.f x565a).bind fun t574 => (if t574 = true then (if 0 ≤ x9 then (if x9 < (x0.length : Int) then ((r3_Effect.f ((q24 x0 x9).f0)).bind fun t576 => (r13_Last.j3 k x0 x2 x7 x8 x9 x10 x11 t576 x565a x565b x565c x565d x565e x565f)) else (none)) else (none)) else (r13_Last.j3 k x0 x2 x7 x8 x9 x10 x11 false x565a x565b x565c x565d x565e x565f)))
def r13_Last.j3 : Nat → List (S24) → List Int → Int → Bool → Int → Int → Int → Bool → Int → Int → Int → Int → Int → ByteArray → Option (Int)
  | 0, _, _, _, _, _, _, _, _, _, _, _, _, _, _ => none
  | k + 1, x0, x2, x7, x8, x9, x10, x11, x67, x565a, x565b, x565c, x565d, x565e, x565f => if x67 = true then (r13_Last.j4 k x0 x2 (mx x7 (wrap64 (x10 + 1))) x8 x9 x10 x11 x565a x565b x565c x565d x565e x565f) else (r13_Last.j4 k x0 x2 x7 x8 x9 x10 x11 x565a x565b x565c x565d x565e x565f)
def r13_Last.j4 : Nat → List (S24) → List Int → Int → Bool → Int → Int → Int → Int → Int → Int → Int → Int → ByteArray → Option (Int)
  | 0, _, _, _, _, _, _, _, _, _, _, _, _, _ => none
  | k + 1, x0, x2, x7, x8, x9, x10, x11, x565a, x565b, x565c, x565d, x565e, x565f => if x8 = true then (r13_Last.l0 k x0 x2 x7 x8 (wrap64 (x9 + 1)) x565a x565b x565c x565d x565e x565f) else (r13_Last.l0 k x0 x2 (mx (mx x7 (wrap64 (x10 - 2))) (wrap64 ((wrap64 ((wrap64 (x10 + x11)) - 2)) - 1))) x8 (wrap64 (x9 + 1)) x565a x565b x565c x565d x565e x565f)
end
def r13_Last.f (k : Nat) (l0 : List (S24)) (a1_0 : Int) (a1_1 : Int) (a1_2 : Int) (a1_3 : Int) (a1_4 : Int) (a1_5 : ByteArray) (l2 : List Int) : Option (Int) := if a1_0 = 0 then (some 0) else (r13_Last.l0 k l0 l2 0 (a1_0 == 33) 0 a1_0 a1_1 a1_2 a1_3 a1_4 a1_5)
set_option maxHeartbeats 8000000 in
set_option maxRecDepth 100000 in
theorem r13_Last.calls (k : Nat) (A0 : Option Addr) (c0 : Nat) (l0 : List (S24)) (a1_0 : Int) (a1_1 : Int) (a1_2 : Int) (a1_3 : Int) (a1_4 : Int) (a1_5 : ByteArray) (A2 : Option Addr) (c2 : Nat) (l2 : List Int) (r : Int) (w : World) (hr0 : Kd.C k24 w A0 l0.length l0) (hc0 : l0.length ≤ c0) (hr2 : Kd.C (Kd.int .i64) w A2 l2.length l2) (hc2 : l2.length ≤ c2) (h : r13_Last.f k l0 a1_0 a1_1 a1_2 a1_3 a1_4 a1_5 l2 = some r) :
    Calls Try.prog 41 #[.slice A0 l0.length c0, .agg #[.int .i64 a1_0, .int .i64 a1_1, .int .i64 a1_2, .int .i64 a1_3, .int .i64 a1_4, .string a1_5], .slice A2 l2.length c2] w fun e w' => e = .returned (.int .i64 r) ∧ Below w.heap.size w w' := by
 have hu24 := Try.underlying24
 have HR0 := As_.mk hr0
 have HC0 := As_.mk hc0
 clear hr0 hc0
 have HR2 := As_.mk hr2
 have HC2 := As_.mk hc2
 clear hr2 hc2
 have HB := As_.mk (Below.refl w.heap.size w)
 have H : (if a1_0 = 0 then (some 0) else (r13_Last.l0 k l0 l2 0 (a1_0 == 33) 0 a1_0 a1_1 a1_2 a1_3 a1_4 a1_5)) = some r := h
 clear h
 by_cases c4 : a1_0 = 0
 ·rw [if_pos c4] at H
  have c4b0 : (a1_0 == 0) = true := beq_iff_eq.mpr c4
  have c4b1 : (a1_0 != 0) = false := bne_eq_false_iff_eq.mpr c4
  clear c4
  obtain rfl := Option.some.inj H
  go_enter Try.func41, Try.ntmps41
  go_wp2_with (first | ((with_reducible refine gate_dst (N := 4) rfl ?_); refine box_event ?hg (N := 4) ?hd (cs := #[.int .i64 a1_0, .int .i64 a1_1, .int .i64 a1_2, .int .i64 a1_3, .int .i64 a1_4, .string a1_5]) (t := 24) ?hr ?_; (case hd => rfl); (case hg => rfl); (case hr => first | (go_simp; done) | (go_simp; rfl)); intro gb564 hg w5 hbox hb; have n0_ := As_.mk (bT_ (by repeat (first | (with_reducible first | exact HB.out | apply bA_ | apply bN_ | apply b1_) | exact HB.out)) hb); have n1_ := As_.mk (hbox); have n2_ := As_.mk ((by rw [hg]; exact (bY_ (by repeat (first | (with_reducible first | exact HB.out | apply bA_ | apply bN_ | apply b1_) | exact HB.out))) : w.heap.size ≤ gb564)); have n3_ := As_.mk ((by rw [hg]; exact (bY_ (by repeat (first | (with_reducible first | exact HB.out | apply bA_ | apply bN_ | apply b1_) | exact HB.out))) : w.heap.size ≤ gb564)); clear HB; have HB := n0_; have BK564 := n1_; have GW564 := n2_; have GE564 := n3_; clear n0_ n1_ n2_ n3_; clear hb hbox hg; have hcz6_0 : w5.cell? ⟨gb564, 0, none⟩ = some (.int .i64 a1_0) := (bC_ BK564.out 0).trans rfl; have hcz6_1 : w5.cell? ⟨gb564, 1, none⟩ = some (.int .i64 a1_1) := (bC_ BK564.out 1).trans rfl; have hcz6_2 : w5.cell? ⟨gb564, 2, none⟩ = some (.int .i64 a1_2) := (bC_ BK564.out 2).trans rfl; have hcz6_3 : w5.cell? ⟨gb564, 3, none⟩ = some (.int .i64 a1_3) := (bC_ BK564.out 3).trans rfl; have hcz6_4 : w5.cell? ⟨gb564, 4, none⟩ = some (.int .i64 a1_4) := (bC_ BK564.out 4).trans rfl; have hcz6_5 : w5.cell? ⟨gb564, 5, none⟩ = some (.string a1_5) := (bC_ BK564.out 5).trans rfl; have hfz6_0 := bZ_ BK564.out 0; have hfz6_1 := bZ_ BK564.out 1; have hfz6_2 := bZ_ BK564.out 2; have hfz6_3 := bZ_ BK564.out 3; have hfz6_4 := bZ_ BK564.out 4; have hfz6_5 := bZ_ BK564.out 5))
  repeat (go_quiet (first | ((with_reducible refine gate_dst (N := 4) rfl ?_); refine box_event ?hg (N := 4) ?hd (cs := #[.int .i64 a1_0, .int .i64 a1_1, .int .i64 a1_2, .int .i64 a1_3, .int .i64 a1_4, .string a1_5]) (t := 24) ?hr ?_; (case hd => rfl); (case hg => rfl); (case hr => first | (go_simp; done) | (go_simp; rfl)); intro gb564 hg w5 hbox hb; have n0_ := As_.mk (bT_ (by repeat (first | (with_reducible first | exact HB.out | apply bA_ | apply bN_ | apply b1_) | exact HB.out)) hb); have n1_ := As_.mk (hbox); have n2_ := As_.mk ((by rw [hg]; exact (bY_ (by repeat (first | (with_reducible first | exact HB.out | apply bA_ | apply bN_ | apply b1_) | exact HB.out))) : w.heap.size ≤ gb564)); have n3_ := As_.mk ((by rw [hg]; exact (bY_ (by repeat (first | (with_reducible first | exact HB.out | apply bA_ | apply bN_ | apply b1_) | exact HB.out))) : w.heap.size ≤ gb564)); clear HB; have HB := n0_; have BK564 := n1_; have GW564 := n2_; have GE564 := n3_; clear n0_ n1_ n2_ n3_; clear hb hbox hg; have hcz6_0 : w5.cell? ⟨gb564, 0, none⟩ = some (.int .i64 a1_0) := (bC_ BK564.out 0).trans rfl; have hcz6_1 : w5.cell? ⟨gb564, 1, none⟩ = some (.int .i64 a1_1) := (bC_ BK564.out 1).trans rfl; have hcz6_2 : w5.cell? ⟨gb564, 2, none⟩ = some (.int .i64 a1_2) := (bC_ BK564.out 2).trans rfl; have hcz6_3 : w5.cell? ⟨gb564, 3, none⟩ = some (.int .i64 a1_3) := (bC_ BK564.out 3).trans rfl; have hcz6_4 : w5.cell? ⟨gb564, 4, none⟩ = some (.int .i64 a1_4) := (bC_ BK564.out 4).trans rfl; have hcz6_5 : w5.cell? ⟨gb564, 5, none⟩ = some (.string a1_5) := (bC_ BK564.out 5).trans rfl; have hfz6_0 := bZ_ BK564.out 0; have hfz6_1 := bZ_ BK564.out 1; have hfz6_2 := bZ_ BK564.out 2; have hfz6_3 := bZ_ BK564.out 3; have hfz6_4 := bZ_ BK564.out 4; have hfz6_5 := bZ_ BK564.out 5)); try go_wp2_with (first | ((with_reducible refine gate_dst (N := 4) rfl ?_); refine box_event ?hg (N := 4) ?hd (cs := #[.int .i64 a1_0, .int .i64 a1_1, .int .i64 a1_2, .int .i64 a1_3, .int .i64 a1_4, .string a1_5]) (t := 24) ?hr ?_; (case hd => rfl); (case hg => rfl); (case hr => first | (go_simp; done) | (go_simp; rfl)); intro gb564 hg w5 hbox hb; have n0_ := As_.mk (bT_ (by repeat (first | (with_reducible first | exact HB.out | apply bA_ | apply bN_ | apply b1_) | exact HB.out)) hb); have n1_ := As_.mk (hbox); have n2_ := As_.mk ((by rw [hg]; exact (bY_ (by repeat (first | (with_reducible first | exact HB.out | apply bA_ | apply bN_ | apply b1_) | exact HB.out))) : w.heap.size ≤ gb564)); have n3_ := As_.mk ((by rw [hg]; exact (bY_ (by repeat (first | (with_reducible first | exact HB.out | apply bA_ | apply bN_ | apply b1_) | exact HB.out))) : w.heap.size ≤ gb564)); clear HB; have HB := n0_; have BK564 := n1_; have GW564 := n2_; have GE564 := n3_; clear n0_ n1_ n2_ n3_; clear hb hbox hg; have hcz6_0 : w5.cell? ⟨gb564, 0, none⟩ = some (.int .i64 a1_0) := (bC_ BK564.out 0).trans rfl; have hcz6_1 : w5.cell? ⟨gb564, 1, none⟩ = some (.int .i64 a1_1) := (bC_ BK564.out 1).trans rfl; have hcz6_2 : w5.cell? ⟨gb564, 2, none⟩ = some (.int .i64 a1_2) := (bC_ BK564.out 2).trans rfl; have hcz6_3 : w5.cell? ⟨gb564, 3, none⟩ = some (.int .i64 a1_3) := (bC_ BK564.out 3).trans rfl; have hcz6_4 : w5.cell? ⟨gb564, 4, none⟩ = some (.int .i64 a1_4) := (bC_ BK564.out 4).trans rfl; have hcz6_5 : w5.cell? ⟨gb564, 5, none⟩ = some (.string a1_5) := (bC_ BK564.out 5).trans rfl; have hfz6_0 := bZ_ BK564.out 0; have hfz6_1 := bZ_ BK564.out 1; have hfz6_2 := bZ_ BK564.out 2; have hfz6_3 := bZ_ BK564.out 3; have hfz6_4 := bZ_ BK564.out 4; have hfz6_5 := bZ_ BK564.out 5)))
  go_ret
  exact ⟨by first | rfl | (simp [eN_, eS_] <;> rfl) | (simp [*, eN_, eS_] <;> rfl), by repeat (first | (with_reducible first | exact HB.out | apply bA_ | apply bN_ | apply b1_ | refine bS_ ?_ GE564.out) | exact HB.out)⟩
 rw [if_neg c4] at H
 have c4b0 : (a1_0 == 0) = false := beq_eq_false_iff_ne.mpr c4
 have c4b1 : (a1_0 != 0) = true := bne_iff_ne.mpr c4
 have H' := As_.mk H
 clear H
 go_enter Try.func41, Try.ntmps41
 go_wp2_with (first | ((with_reducible refine gate_dst (N := 4) rfl ?_); refine box_event ?hg (N := 4) ?hd (cs := #[.int .i64 a1_0, .int .i64 a1_1, .int .i64 a1_2, .int .i64 a1_3, .int .i64 a1_4, .string a1_5]) (t := 24) ?hr ?_; (case hd => rfl); (case hg => rfl); (case hr => first | (go_simp; done) | (go_simp; rfl)); intro gb564 hg w7 hbox hb; have n0_ := As_.mk (bT_ (by repeat (first | (with_reducible first | exact HB.out | apply bA_ | apply bN_ | apply b1_) | exact HB.out)) hb); have n1_ := As_.mk (hbox); have n2_ := As_.mk ((by rw [hg]; exact (bY_ (by repeat (first | (with_reducible first | exact HB.out | apply bA_ | apply bN_ | apply b1_) | exact HB.out))) : w.heap.size ≤ gb564)); have n3_ := As_.mk ((by rw [hg]; exact (bY_ (by repeat (first | (with_reducible first | exact HB.out | apply bA_ | apply bN_ | apply b1_) | exact HB.out))) : w.heap.size ≤ gb564)); clear HB; have HB := n0_; have BK564 := n1_; have GW564 := n2_; have GE564 := n3_; clear n0_ n1_ n2_ n3_; clear hb hbox hg; have hcz8_0 : w7.cell? ⟨gb564, 0, none⟩ = some (.int .i64 a1_0) := (bC_ BK564.out 0).trans rfl; have hcz8_1 : w7.cell? ⟨gb564, 1, none⟩ = some (.int .i64 a1_1) := (bC_ BK564.out 1).trans rfl; have hcz8_2 : w7.cell? ⟨gb564, 2, none⟩ = some (.int .i64 a1_2) := (bC_ BK564.out 2).trans rfl; have hcz8_3 : w7.cell? ⟨gb564, 3, none⟩ = some (.int .i64 a1_3) := (bC_ BK564.out 3).trans rfl; have hcz8_4 : w7.cell? ⟨gb564, 4, none⟩ = some (.int .i64 a1_4) := (bC_ BK564.out 4).trans rfl; have hcz8_5 : w7.cell? ⟨gb564, 5, none⟩ = some (.string a1_5) := (bC_ BK564.out 5).trans rfl; have hfz8_0 := bZ_ BK564.out 0; have hfz8_1 := bZ_ BK564.out 1; have hfz8_2 := bZ_ BK564.out 2; have hfz8_3 := bZ_ BK564.out 3; have hfz8_4 := bZ_ BK564.out 4; have hfz8_5 := bZ_ BK564.out 5))
 repeat (go_quiet (first | ((with_reducible refine gate_dst (N := 4) rfl ?_); refine box_event ?hg (N := 4) ?hd (cs := #[.int .i64 a1_0, .int .i64 a1_1, .int .i64 a1_2, .int .i64 a1_3, .int .i64 a1_4, .string a1_5]) (t := 24) ?hr ?_; (case hd => rfl); (case hg => rfl); (case hr => first | (go_simp; done) | (go_simp; rfl)); intro gb564 hg w7 hbox hb; have n0_ := As_.mk (bT_ (by repeat (first | (with_reducible first | exact HB.out | apply bA_ | apply bN_ | apply b1_) | exact HB.out)) hb); have n1_ := As_.mk (hbox); have n2_ := As_.mk ((by rw [hg]; exact (bY_ (by repeat (first | (with_reducible first | exact HB.out | apply bA_ | apply bN_ | apply b1_) | exact HB.out))) : w.heap.size ≤ gb564)); have n3_ := As_.mk ((by rw [hg]; exact (bY_ (by repeat (first | (with_reducible first | exact HB.out | apply bA_ | apply bN_ | apply b1_) | exact HB.out))) : w.heap.size ≤ gb564)); clear HB; have HB := n0_; have BK564 := n1_; have GW564 := n2_; have GE564 := n3_; clear n0_ n1_ n2_ n3_; clear hb hbox hg; have hcz8_0 : w7.cell? ⟨gb564, 0, none⟩ = some (.int .i64 a1_0) := (bC_ BK564.out 0).trans rfl; have hcz8_1 : w7.cell? ⟨gb564, 1, none⟩ = some (.int .i64 a1_1) := (bC_ BK564.out 1).trans rfl; have hcz8_2 : w7.cell? ⟨gb564, 2, none⟩ = some (.int .i64 a1_2) := (bC_ BK564.out 2).trans rfl; have hcz8_3 : w7.cell? ⟨gb564, 3, none⟩ = some (.int .i64 a1_3) := (bC_ BK564.out 3).trans rfl; have hcz8_4 : w7.cell? ⟨gb564, 4, none⟩ = some (.int .i64 a1_4) := (bC_ BK564.out 4).trans rfl; have hcz8_5 : w7.cell? ⟨gb564, 5, none⟩ = some (.string a1_5) := (bC_ BK564.out 5).trans rfl; have hfz8_0 := bZ_ BK564.out 0; have hfz8_1 := bZ_ BK564.out 1; have hfz8_2 := bZ_ BK564.out 2; have hfz8_3 := bZ_ BK564.out 3; have hfz8_4 := bZ_ BK564.out 4; have hfz8_5 := bZ_ BK564.out 5)); try go_wp2_with (first | ((with_reducible refine gate_dst (N := 4) rfl ?_); refine box_event ?hg (N := 4) ?hd (cs := #[.int .i64 a1_0, .int .i64 a1_1, .int .i64 a1_2, .int .i64 a1_3, .int .i64 a1_4, .string a1_5]) (t := 24) ?hr ?_; (case hd => rfl); (case hg => rfl); (case hr => first | (go_simp; done) | (go_simp; rfl)); intro gb564 hg w7 hbox hb; have n0_ := As_.mk (bT_ (by repeat (first | (with_reducible first | exact HB.out | apply bA_ | apply bN_ | apply b1_) | exact HB.out)) hb); have n1_ := As_.mk (hbox); have n2_ := As_.mk ((by rw [hg]; exact (bY_ (by repeat (first | (with_reducible first | exact HB.out | apply bA_ | apply bN_ | apply b1_) | exact HB.out))) : w.heap.size ≤ gb564)); have n3_ := As_.mk ((by rw [hg]; exact (bY_ (by repeat (first | (with_reducible first | exact HB.out | apply bA_ | apply bN_ | apply b1_) | exact HB.out))) : w.heap.size ≤ gb564)); clear HB; have HB := n0_; have BK564 := n1_; have GW564 := n2_; have GE564 := n3_; clear n0_ n1_ n2_ n3_; clear hb hbox hg; have hcz8_0 : w7.cell? ⟨gb564, 0, none⟩ = some (.int .i64 a1_0) := (bC_ BK564.out 0).trans rfl; have hcz8_1 : w7.cell? ⟨gb564, 1, none⟩ = some (.int .i64 a1_1) := (bC_ BK564.out 1).trans rfl; have hcz8_2 : w7.cell? ⟨gb564, 2, none⟩ = some (.int .i64 a1_2) := (bC_ BK564.out 2).trans rfl; have hcz8_3 : w7.cell? ⟨gb564, 3, none⟩ = some (.int .i64 a1_3) := (bC_ BK564.out 3).trans rfl; have hcz8_4 : w7.cell? ⟨gb564, 4, none⟩ = some (.int .i64 a1_4) := (bC_ BK564.out 4).trans rfl; have hcz8_5 : w7.cell? ⟨gb564, 5, none⟩ = some (.string a1_5) := (bC_ BK564.out 5).trans rfl; have hfz8_0 := bZ_ BK564.out 0; have hfz8_1 := bZ_ BK564.out 1; have hfz8_2 := bZ_ BK564.out 2; have hfz8_3 := bZ_ BK564.out 3; have hfz8_4 := bZ_ BK564.out 4; have hfz8_5 := bZ_ BK564.out 5)))
 go_loopg [7, 9] k (fun kq v7 v9 w' => ∃ (x7_1 : Int) (x9_1 : Int), v7 = .int .i64 x7_1 ∧ v9 = .int .i64 x9_1 ∧ As_ (r13_Last.l0 kq l0 l2 x7_1 (a1_0 == 33) x9_1 a1_0 a1_1 a1_2 a1_3 a1_4 a1_5 = some r) ∧ As_ (kq ≤ k) ∧ As_ (w'.heap[gb564]? = some (.cells #[.int .i64 a1_0, .int .i64 a1_1, .int .i64 a1_2, .int .i64 a1_3, .int .i64 a1_4, .string a1_5] 24 (0, 0))) ∧ As_ (Below w.heap.size w w'))
 case atStart => exact ⟨(0), (0), (by first | rfl | (simp; done) | (simp [*]; done) | (simp [wrap64]; done) | (congr 1; rw [Bool.eq_iff_iff]; simp; done)), (by first | rfl | (simp; done) | (simp [*]; done) | (simp [wrap64]; done) | (congr 1; rw [Bool.eq_iff_iff]; simp; done)), H', ⟨Nat.le_refl _⟩, ⟨by (with_reducible repeat (first | refine kN_ ?_ _ | refine kD_ ?_ | refine kA_ ?_ _)); exact BK564.out⟩, ⟨by repeat (first | (with_reducible first | exact HB.out | apply bA_ | apply bN_ | apply b1_ | refine bS_ ?_ GE564.out) | exact HB.out)⟩⟩
 case round =>
  clear H'
  obtain ⟨x7_1, x9_1, rfl, rfl, HA, HK1, BK564, HB⟩ := hrel
  cases gk with
  | zero => exact absurd HA.out (by simp [r13_Last.l0])
  | succ k1 =>
   have H := HA.out
   clear HA
   simp only [r13_Last.l0] at H
   by_cases c9 : x9_1 < (l0.length : Int)
   ·rw [if_pos c9] at H
    have c9b0 : decide (x9_1 < (l0.length : Int)) = true := decide_eq_true c9
    clear c9
    by_cases c10 : 0 ≤ x9_1
    ·rw [if_pos c10] at H
     have c10b0 : decide (0 ≤ x9_1) = true := decide_eq_true c10
     clear c10
     by_cases c11 : x9_1 < (l2.length : Int)
     ·rw [if_pos c11] at H
      have c11b0 : decide (x9_1 < (l2.length : Int)) = true := decide_eq_true c11
      clear c11
      replace H := Option.bind_eq_some_iff.mp H
      obtain ⟨t567, A120, H⟩ := H
      replace H : ((r3_Writes.f ((q24 l0 x9_1).f0) ((q24 l0 x9_1).f1) ((q24 l0 x9_1).f2) ((q24 l0 x9_1).f3) ((q24 l0 x9_1).f4) ((q24 l0 x9_1).f5)).bind fun t569 => (if t569 ≥ 0 then ((r3_Reads.f k1 a1_0 a1_1 a1_2 a1_3 a1_4 a1_5).bind fun t570 => ((r0_In.f k1 t570 t569).bind fun t573 => (r13_Last.j1 k1 l0 l2 x7_1 (a1_0 == 33) x9_1 (rd l2 x9_1) t567 (decide (t573 ≥ 0)) a1_0 a1_1 a1_2 a1_3 a1_4 a1_5))) else (r13_Last.j1 k1 l0 l2 x7_1 (a1_0 == 33) x9_1 (rd l2 x9_1) t567 false a1_0 a1_1 a1_2 a1_3 a1_4 a1_5))) = some r := H
      have A12 := As_.mk A120
      clear A120
      replace H := Option.bind_eq_some_iff.mp H
      obtain ⟨t569, A130, H⟩ := H
      replace H : (if t569 ≥ 0 then ((r3_Reads.f k1 a1_0 a1_1 a1_2 a1_3 a1_4 a1_5).bind fun t570 => ((r0_In.f k1 t570 t569).bind fun t573 => (r13_Last.j1 k1 l0 l2 x7_1 (a1_0 == 33) x9_1 (rd l2 x9_1) t567 (decide (t573 ≥ 0)) a1_0 a1_1 a1_2 a1_3 a1_4 a1_5))) else (r13_Last.j1 k1 l0 l2 x7_1 (a1_0 == 33) x9_1 (rd l2 x9_1) t567 false a1_0 a1_1 a1_2 a1_3 a1_4 a1_5)) = some r := H
      have A13 := As_.mk A130
      clear A130
      have HC14 := As_.mk H
      clear H
      have p565 : 0 ≤ (x9_1 : Int) := of_decide_eq_true (by assumption)
      have q565 : x9_1 < (l2.length : Int) := of_decide_eq_true (by assumption)
      obtain ⟨ad565, e565, hx565_0⟩ := Kd.at_int HR2.out x9_1 p565 q565
      cases e565
      replace hx565_0 := (HB.out.cell (World.block_lt_of_cell? w _ hx565_0)).trans hx565_0
      replace p565 := eq_true p565
      replace q565 := eq_true q565
      have p566 : 0 ≤ (x9_1 : Int) := of_decide_eq_true (by assumption)
      have q566 : x9_1 < (l0.length : Int) := of_decide_eq_true (by assumption)
      obtain ⟨ad566, e566, hx566_0, hx566_1, hx566_2, hx566_3, hx566_4, hx566_5⟩ := at_T24 HR0.out x9_1 p566 q566
      cases e566
      replace hx566_0 := (HB.out.cell (World.block_lt_of_cell? w _ hx566_0)).trans hx566_0
      replace hx566_1 := (HB.out.cell (World.block_lt_of_cell? w _ hx566_1)).trans hx566_1
      replace hx566_2 := (HB.out.cell (World.block_lt_of_cell? w _ hx566_2)).trans hx566_2
      replace hx566_3 := (HB.out.cell (World.block_lt_of_cell? w _ hx566_3)).trans hx566_3
      replace hx566_4 := (HB.out.cell (World.block_lt_of_cell? w _ hx566_4)).trans hx566_4
      replace hx566_5 := (HB.out.cell (World.block_lt_of_cell? w _ hx566_5)).trans hx566_5
      replace p566 := eq_true p566
      replace q566 := eq_true q566
      go_upto_region 10 with (first | (go_at_call 27; (with_reducible refine (r3_Latency.calls k1 ((q24 l0 x9_1).f0) t567 _ A12.out).mono ?_); rintro e w' ⟨rfl, ⟨nd, rfl⟩⟩; (try first | exact ⟨rfl, _, World.drewN_drewN _ _ _⟩ | exact ⟨rfl, _, Eq.trans (World.drewN_drewN _ _ _) (congrArg (World.drewN _) (Nat.add_assoc _ _ _))⟩); have p568 : 0 ≤ (x9_1 : Int) := of_decide_eq_true (by assumption); have q568 : x9_1 < (l0.length : Int) := of_decide_eq_true (by assumption); obtain ⟨ad568, e568, hx568_0, hx568_1, hx568_2, hx568_3, hx568_4, hx568_5⟩ := at_T24 HR0.out x9_1 p568 q568; obtain rfl : ad566 = ad568 := (by injection e568); replace hx568_0 := (HB.out.cell (World.block_lt_of_cell? w _ hx568_0)).trans hx568_0; replace hx568_1 := (HB.out.cell (World.block_lt_of_cell? w _ hx568_1)).trans hx568_1; replace hx568_2 := (HB.out.cell (World.block_lt_of_cell? w _ hx568_2)).trans hx568_2; replace hx568_3 := (HB.out.cell (World.block_lt_of_cell? w _ hx568_3)).trans hx568_3; replace hx568_4 := (HB.out.cell (World.block_lt_of_cell? w _ hx568_4)).trans hx568_4; replace hx568_5 := (HB.out.cell (World.block_lt_of_cell? w _ hx568_5)).trans hx568_5; replace p568 := eq_true p568; replace q568 := eq_true q568) | (go_at_call 71; (with_reducible refine (r3_Writes.calls ((q24 l0 x9_1).f0) ((q24 l0 x9_1).f1) ((q24 l0 x9_1).f2) ((q24 l0 x9_1).f3) ((q24 l0 x9_1).f4) ((q24 l0 x9_1).f5) t569 _ A13.out).mono ?_); rintro e w15 ⟨rfl, hb⟩; have n0_ := As_.mk (kB_ (g := gb564) (o := .cells #[.int .i64 a1_0, .int .i64 a1_1, .int .i64 a1_2, .int .i64 a1_3, .int .i64 a1_4, .string a1_5] 24 (0, 0)) (by (with_reducible repeat (first | refine kN_ ?_ _ | refine kD_ ?_ | refine kA_ ?_ _)); exact BK564.out) hb); have n1_ := As_.mk (bT_ (by repeat (first | (with_reducible first | exact HB.out | apply bA_ | apply bN_ | apply b1_ | refine bS_ ?_ GE564.out) | exact HB.out)) hb); clear BK564; clear HB; have BK564 := n0_; have HB := n1_; clear n0_ n1_))
      repeat (go_quiet (first | (go_at_call 27; (with_reducible refine (r3_Latency.calls k1 ((q24 l0 x9_1).f0) t567 _ A12.out).mono ?_); rintro e w' ⟨rfl, ⟨nd, rfl⟩⟩; (try first | exact ⟨rfl, _, World.drewN_drewN _ _ _⟩ | exact ⟨rfl, _, Eq.trans (World.drewN_drewN _ _ _) (congrArg (World.drewN _) (Nat.add_assoc _ _ _))⟩); have p568 : 0 ≤ (x9_1 : Int) := of_decide_eq_true (by assumption); have q568 : x9_1 < (l0.length : Int) := of_decide_eq_true (by assumption); obtain ⟨ad568, e568, hx568_0, hx568_1, hx568_2, hx568_3, hx568_4, hx568_5⟩ := at_T24 HR0.out x9_1 p568 q568; obtain rfl : ad566 = ad568 := (by injection e568); replace hx568_0 := (HB.out.cell (World.block_lt_of_cell? w _ hx568_0)).trans hx568_0; replace hx568_1 := (HB.out.cell (World.block_lt_of_cell? w _ hx568_1)).trans hx568_1; replace hx568_2 := (HB.out.cell (World.block_lt_of_cell? w _ hx568_2)).trans hx568_2; replace hx568_3 := (HB.out.cell (World.block_lt_of_cell? w _ hx568_3)).trans hx568_3; replace hx568_4 := (HB.out.cell (World.block_lt_of_cell? w _ hx568_4)).trans hx568_4; replace hx568_5 := (HB.out.cell (World.block_lt_of_cell? w _ hx568_5)).trans hx568_5; replace p568 := eq_true p568; replace q568 := eq_true q568) | (go_at_call 71; (with_reducible refine (r3_Writes.calls ((q24 l0 x9_1).f0) ((q24 l0 x9_1).f1) ((q24 l0 x9_1).f2) ((q24 l0 x9_1).f3) ((q24 l0 x9_1).f4) ((q24 l0 x9_1).f5) t569 _ A13.out).mono ?_); rintro e w15 ⟨rfl, hb⟩; have n0_ := As_.mk (kB_ (g := gb564) (o := .cells #[.int .i64 a1_0, .int .i64 a1_1, .int .i64 a1_2, .int .i64 a1_3, .int .i64 a1_4, .string a1_5] 24 (0, 0)) (by (with_reducible repeat (first | refine kN_ ?_ _ | refine kD_ ?_ | refine kA_ ?_ _)); exact BK564.out) hb); have n1_ := As_.mk (bT_ (by repeat (first | (with_reducible first | exact HB.out | apply bA_ | apply bN_ | apply b1_ | refine bS_ ?_ GE564.out) | exact HB.out)) hb); clear BK564; clear HB; have BK564 := n0_; have HB := n1_; clear n0_ n1_)); go_upto_region 10 with (first | (go_at_call 27; (with_reducible refine (r3_Latency.calls k1 ((q24 l0 x9_1).f0) t567 _ A12.out).mono ?_); rintro e w' ⟨rfl, ⟨nd, rfl⟩⟩; (try first | exact ⟨rfl, _, World.drewN_drewN _ _ _⟩ | exact ⟨rfl, _, Eq.trans (World.drewN_drewN _ _ _) (congrArg (World.drewN _) (Nat.add_assoc _ _ _))⟩); have p568 : 0 ≤ (x9_1 : Int) := of_decide_eq_true (by assumption); have q568 : x9_1 < (l0.length : Int) := of_decide_eq_true (by assumption); obtain ⟨ad568, e568, hx568_0, hx568_1, hx568_2, hx568_3, hx568_4, hx568_5⟩ := at_T24 HR0.out x9_1 p568 q568; obtain rfl : ad566 = ad568 := (by injection e568); replace hx568_0 := (HB.out.cell (World.block_lt_of_cell? w _ hx568_0)).trans hx568_0; replace hx568_1 := (HB.out.cell (World.block_lt_of_cell? w _ hx568_1)).trans hx568_1; replace hx568_2 := (HB.out.cell (World.block_lt_of_cell? w _ hx568_2)).trans hx568_2; replace hx568_3 := (HB.out.cell (World.block_lt_of_cell? w _ hx568_3)).trans hx568_3; replace hx568_4 := (HB.out.cell (World.block_lt_of_cell? w _ hx568_4)).trans hx568_4; replace hx568_5 := (HB.out.cell (World.block_lt_of_cell? w _ hx568_5)).trans hx568_5; replace p568 := eq_true p568; replace q568 := eq_true q568) | (go_at_call 71; (with_reducible refine (r3_Writes.calls ((q24 l0 x9_1).f0) ((q24 l0 x9_1).f1) ((q24 l0 x9_1).f2) ((q24 l0 x9_1).f3) ((q24 l0 x9_1).f4) ((q24 l0 x9_1).f5) t569 _ A13.out).mono ?_); rintro e w15 ⟨rfl, hb⟩; have n0_ := As_.mk (kB_ (g := gb564) (o := .cells #[.int .i64 a1_0, .int .i64 a1_1, .int .i64 a1_2, .int .i64 a1_3, .int .i64 a1_4, .string a1_5] 24 (0, 0)) (by (with_reducible repeat (first | refine kN_ ?_ _ | refine kD_ ?_ | refine kA_ ?_ _)); exact BK564.out) hb); have n1_ := As_.mk (bT_ (by repeat (first | (with_reducible first | exact HB.out | apply bA_ | apply bN_ | apply b1_ | refine bS_ ?_ GE564.out) | exact HB.out)) hb); clear BK564; clear HB; have BK564 := n0_; have HB := n1_; clear n0_ n1_)))
      (try simp only [Act.put, List.setIfInBounds_toArray, List.set_cons_zero, List.set_cons_succ])
      go_cut [48] (fun v48 wc => ∃ (kq : Nat) (x48_13 : Bool), v48 = .bool x48_13 ∧ As_ (r13_Last.j1 kq l0 l2 x7_1 (a1_0 == 33) x9_1 (rd l2 x9_1) t567 x48_13 a1_0 a1_1 a1_2 a1_3 a1_4 a1_5 = some r) ∧ As_ (kq ≤ k1) ∧ As_ (wc.heap[gb564]? = some (.cells #[.int .i64 a1_0, .int .i64 a1_1, .int .i64 a1_2, .int .i64 a1_3, .int .i64 a1_4, .string a1_5] 24 (0, 0))) ∧ As_ (Below w.heap.size w wc))
      case first =>
       have H := HC14.out
       clear HC14
       by_cases c16 : t569 ≥ 0
       ·rw [if_pos c16] at H
        have c16b0 : decide (0 ≤ t569) = true := decide_eq_true c16
        clear c16
        (first | rw [c16b0] | (simp only [i64_w, i32_w]; rw [c16b0]) | skip)
        replace H := Option.bind_eq_some_iff.mp H
        obtain ⟨t570, A170, H⟩ := H
        replace H : ((r0_In.f k1 t570 t569).bind fun t573 => (r13_Last.j1 k1 l0 l2 x7_1 (a1_0 == 33) x9_1 (rd l2 x9_1) t567 (decide (t573 ≥ 0)) a1_0 a1_1 a1_2 a1_3 a1_4 a1_5)) = some r := H
        have A17 := As_.mk A170
        clear A170
        replace H := Option.bind_eq_some_iff.mp H
        obtain ⟨t573, A180, H⟩ := H
        replace H : (r13_Last.j1 k1 l0 l2 x7_1 (a1_0 == 33) x9_1 (rd l2 x9_1) t567 (decide (t573 ≥ 0)) a1_0 a1_1 a1_2 a1_3 a1_4 a1_5) = some r := H
        have A18 := As_.mk A180
        clear A180
        have H' := As_.mk H
        clear H
        have hcz19_0 : w15.cell? ⟨gb564, 0, none⟩ = some (.int .i64 a1_0) := (bC_ BK564.out 0).trans rfl
        have hcz19_1 : w15.cell? ⟨gb564, 1, none⟩ = some (.int .i64 a1_1) := (bC_ BK564.out 1).trans rfl
        have hcz19_2 : w15.cell? ⟨gb564, 2, none⟩ = some (.int .i64 a1_2) := (bC_ BK564.out 2).trans rfl
        have hcz19_3 : w15.cell? ⟨gb564, 3, none⟩ = some (.int .i64 a1_3) := (bC_ BK564.out 3).trans rfl
        have hcz19_4 : w15.cell? ⟨gb564, 4, none⟩ = some (.int .i64 a1_4) := (bC_ BK564.out 4).trans rfl
        have hcz19_5 : w15.cell? ⟨gb564, 5, none⟩ = some (.string a1_5) := (bC_ BK564.out 5).trans rfl
        have hfz19_0 := bZ_ BK564.out 0
        have hfz19_1 := bZ_ BK564.out 1
        have hfz19_2 := bZ_ BK564.out 2
        have hfz19_3 := bZ_ BK564.out 3
        have hfz19_4 := bZ_ BK564.out 4
        have hfz19_5 := bZ_ BK564.out 5
        go_wp2_with (first | (go_at_call 73; (with_reducible refine (r3_Reads.calls k1 a1_0 a1_1 a1_2 a1_3 a1_4 a1_5 t570 _ A17.out).mono ?_); rintro e w20 ⟨v571, rfl, ho0, hb⟩; have n0_ := As_.mk (Kd.R_lower ho0 (bY_ (by repeat (first | (with_reducible first | exact HB.out | apply bA_ | apply bN_ | apply b1_ | refine bS_ ?_ GE564.out) | exact HB.out)))); have n1_ := As_.mk (kB_ (g := gb564) (o := .cells #[.int .i64 a1_0, .int .i64 a1_1, .int .i64 a1_2, .int .i64 a1_3, .int .i64 a1_4, .string a1_5] 24 (0, 0)) (by (with_reducible repeat (first | refine kN_ ?_ _ | refine kD_ ?_ | refine kA_ ?_ _)); exact BK564.out) hb); have n2_ := As_.mk (bT_ (by repeat (first | (with_reducible first | exact HB.out | apply bA_ | apply bN_ | apply b1_ | refine bS_ ?_ GE564.out) | exact HB.out)) hb); clear BK564; clear HB; have HO572 := n0_; have BK564 := n1_; have HB := n2_; clear n0_ n1_ n2_; (try clear ho0); obtain ⟨Ao21, co21, eo21⟩ := Kd.R_slice HO572.out; subst eo21) | (go_at_call 72; (with_reducible refine (r0_In.calls k1 _ _ t570 t569 t573 _ ?side1 ?side2 A18.out).mono ?_); (case side1 => repeat (first | exact (Kd.R_reads' HO572.out).2.2 | (with_reducible refine Kd.C_alloc ?_ _) | (with_reducible refine Kd.C_drewN ?_ _) | (with_reducible refine Kd.C_drew ?_))); (case side2 => exact (Kd.R_reads' HO572.out).2.1); rintro e w' ⟨rfl, ⟨nd, rfl⟩⟩; (try first | exact ⟨rfl, _, World.drewN_drewN _ _ _⟩ | exact ⟨rfl, _, Eq.trans (World.drewN_drewN _ _ _) (congrArg (World.drewN _) (Nat.add_assoc _ _ _))⟩)))
        repeat (go_quiet (first | (go_at_call 73; (with_reducible refine (r3_Reads.calls k1 a1_0 a1_1 a1_2 a1_3 a1_4 a1_5 t570 _ A17.out).mono ?_); rintro e w20 ⟨v571, rfl, ho0, hb⟩; have n0_ := As_.mk (Kd.R_lower ho0 (bY_ (by repeat (first | (with_reducible first | exact HB.out | apply bA_ | apply bN_ | apply b1_ | refine bS_ ?_ GE564.out) | exact HB.out)))); have n1_ := As_.mk (kB_ (g := gb564) (o := .cells #[.int .i64 a1_0, .int .i64 a1_1, .int .i64 a1_2, .int .i64 a1_3, .int .i64 a1_4, .string a1_5] 24 (0, 0)) (by (with_reducible repeat (first | refine kN_ ?_ _ | refine kD_ ?_ | refine kA_ ?_ _)); exact BK564.out) hb); have n2_ := As_.mk (bT_ (by repeat (first | (with_reducible first | exact HB.out | apply bA_ | apply bN_ | apply b1_ | refine bS_ ?_ GE564.out) | exact HB.out)) hb); clear BK564; clear HB; have HO572 := n0_; have BK564 := n1_; have HB := n2_; clear n0_ n1_ n2_; (try clear ho0); obtain ⟨Ao21, co21, eo21⟩ := Kd.R_slice HO572.out; subst eo21) | (go_at_call 72; (with_reducible refine (r0_In.calls k1 _ _ t570 t569 t573 _ ?side1 ?side2 A18.out).mono ?_); (case side1 => repeat (first | exact (Kd.R_reads' HO572.out).2.2 | (with_reducible refine Kd.C_alloc ?_ _) | (with_reducible refine Kd.C_drewN ?_ _) | (with_reducible refine Kd.C_drew ?_))); (case side2 => exact (Kd.R_reads' HO572.out).2.1); rintro e w' ⟨rfl, ⟨nd, rfl⟩⟩; (try first | exact ⟨rfl, _, World.drewN_drewN _ _ _⟩ | exact ⟨rfl, _, Eq.trans (World.drewN_drewN _ _ _) (congrArg (World.drewN _) (Nat.add_assoc _ _ _))⟩))); try go_wp2_with (first | (go_at_call 73; (with_reducible refine (r3_Reads.calls k1 a1_0 a1_1 a1_2 a1_3 a1_4 a1_5 t570 _ A17.out).mono ?_); rintro e w20 ⟨v571, rfl, ho0, hb⟩; have n0_ := As_.mk (Kd.R_lower ho0 (bY_ (by repeat (first | (with_reducible first | exact HB.out | apply bA_ | apply bN_ | apply b1_ | refine bS_ ?_ GE564.out) | exact HB.out)))); have n1_ := As_.mk (kB_ (g := gb564) (o := .cells #[.int .i64 a1_0, .int .i64 a1_1, .int .i64 a1_2, .int .i64 a1_3, .int .i64 a1_4, .string a1_5] 24 (0, 0)) (by (with_reducible repeat (first | refine kN_ ?_ _ | refine kD_ ?_ | refine kA_ ?_ _)); exact BK564.out) hb); have n2_ := As_.mk (bT_ (by repeat (first | (with_reducible first | exact HB.out | apply bA_ | apply bN_ | apply b1_ | refine bS_ ?_ GE564.out) | exact HB.out)) hb); clear BK564; clear HB; have HO572 := n0_; have BK564 := n1_; have HB := n2_; clear n0_ n1_ n2_; (try clear ho0); obtain ⟨Ao21, co21, eo21⟩ := Kd.R_slice HO572.out; subst eo21) | (go_at_call 72; (with_reducible refine (r0_In.calls k1 _ _ t570 t569 t573 _ ?side1 ?side2 A18.out).mono ?_); (case side1 => repeat (first | exact (Kd.R_reads' HO572.out).2.2 | (with_reducible refine Kd.C_alloc ?_ _) | (with_reducible refine Kd.C_drewN ?_ _) | (with_reducible refine Kd.C_drew ?_))); (case side2 => exact (Kd.R_reads' HO572.out).2.1); rintro e w' ⟨rfl, ⟨nd, rfl⟩⟩; (try first | exact ⟨rfl, _, World.drewN_drewN _ _ _⟩ | exact ⟨rfl, _, Eq.trans (World.drewN_drewN _ _ _) (congrArg (World.drewN _) (Nat.add_assoc _ _ _))⟩))))
        first | go_meet | (refine Met.intro ?_; go_step; (repeat apply Exists.intro); refine ⟨?rel, by rw [c26b0]⟩)
        case rel => exact ⟨_, (decide (t573 ≥ 0)), (by first | rfl | (simp; done) | (simp [*]; done) | (simp [wrap64]; done) | (congr 1; rw [Bool.eq_iff_iff]; simp; done)), H', ⟨by have := HK1.out; first | omega | exact Nat.le_refl _⟩, ⟨by (with_reducible repeat (first | refine kN_ ?_ _ | refine kD_ ?_ | refine kA_ ?_ _)); exact BK564.out⟩, ⟨by repeat (first | (with_reducible first | exact HB.out | apply bA_ | apply bN_ | apply b1_ | refine bS_ ?_ GE564.out) | exact HB.out)⟩⟩
       rw [if_neg c16] at H
       have c16b0 : decide (0 ≤ t569) = false := decide_eq_false c16
       clear c16
       (first | rw [c16b0] | (simp only [i64_w, i32_w]; rw [c16b0]) | skip)
       have H' := As_.mk H
       clear H
       go_wp2
       repeat (go_quiet (fail); try go_wp2)
       first | go_meet | (refine Met.intro ?_; go_step; (repeat apply Exists.intro); refine ⟨?rel, by rw [c26b0]⟩)
       case rel => exact ⟨_, (false), (by first | rfl | (simp; done) | (simp [*]; done) | (simp [wrap64]; done) | (congr 1; rw [Bool.eq_iff_iff]; simp; done)), H', ⟨by have := HK1.out; first | omega | exact Nat.le_refl _⟩, ⟨by (with_reducible repeat (first | refine kN_ ?_ _ | refine kD_ ?_ | refine kA_ ?_ _)); exact BK564.out⟩, ⟨by repeat (first | (with_reducible first | exact HB.out | apply bA_ | apply bN_ | apply b1_ | refine bS_ ?_ GE564.out) | exact HB.out)⟩⟩
      case rest =>
       clear HC14
       obtain ⟨kq, x48_13, rfl, HA, HJ13, BK564, HB⟩ := hcut
       cases kq with
       | zero => exact absurd HA.out (by simp [r13_Last.j1])
       | succ kj13 =>
        have H := HA.out
        clear HA
        simp only [r13_Last.j1] at H
        have HC22 := As_.mk H
        clear H
        go_upto_if 48 with (fail)
        repeat (go_quiet (fail); go_upto_if 48 with (fail))
        go_cut [7] (fun v7 wc => ∃ (kq : Nat) (x7_21 : Int), v7 = .int .i64 x7_21 ∧ As_ (r13_Last.j2 kq l0 l2 x7_21 (a1_0 == 33) x9_1 (rd l2 x9_1) t567 a1_0 a1_1 a1_2 a1_3 a1_4 a1_5 = some r) ∧ As_ (kq ≤ kj13) ∧ As_ (wc.heap[gb564]? = some (.cells #[.int .i64 a1_0, .int .i64 a1_1, .int .i64 a1_2, .int .i64 a1_3, .int .i64 a1_4, .string a1_5] 24 (0, 0))) ∧ As_ (Below w.heap.size w wc))
        case first =>
         have H := HC22.out
         clear HC22
         by_cases c23 : x48_13 = true
         ·subst c23
          have H1 : (r13_Last.j2 kj13 l0 l2 (mx x7_1 (wrap64 ((rd l2 x9_1) + t567))) (a1_0 == 33) x9_1 (rd l2 x9_1) t567 a1_0 a1_1 a1_2 a1_3 a1_4 a1_5) = some r := by rw [if_pos rfl] at H; exact H
          clear H
          have H := H1
          clear H1
          obtain ⟨ji24, hji24⟩ : ∃ j_ : Int, (mx x7_1 (wrap64 ((rd l2 x9_1) + t567))) = j_ := ⟨_, rfl⟩
          replace H : (r13_Last.j2 kj13 l0 l2 ji24 (a1_0 == 33) x9_1 (rd l2 x9_1) t567 a1_0 a1_1 a1_2 a1_3 a1_4 a1_5) = some r := by first | (rw [hji24] at H; exact H) | (simp only [hji24] at H ⊢; exact H)
          have hji24_ : (if x7_1 < (wrap64 ((rd l2 x9_1) + t567)) then (wrap64 ((rd l2 x9_1) + t567)) else x7_1) = ji24 := hji24
          have H' := As_.mk H
          clear H
          go_wp2
          repeat (go_quiet (fail); try go_wp2)
          first | go_meet | (refine Met.intro ?_; go_step; (repeat apply Exists.intro); refine ⟨?rel, by rw [c26b0]⟩)
          case rel => exact ⟨_, (ji24), (by first | rfl | (simp; done) | (simp only [← hji24] <;> (first | rfl | simp)) | (simp [*]; done) | (congr 1; rw [Bool.eq_iff_iff]; simp; done)), H', ⟨by have := HK1.out; have := HJ13.out; first | omega | exact Nat.le_refl _⟩, ⟨by (with_reducible repeat (first | refine kN_ ?_ _ | refine kD_ ?_ | refine kA_ ?_ _)); exact BK564.out⟩, ⟨by repeat (first | (with_reducible first | exact HB.out | apply bA_ | apply bN_ | apply b1_ | refine bS_ ?_ GE564.out) | exact HB.out)⟩⟩
         replace c23 := Bool.eq_false_iff.mpr c23
         subst c23
         have H1 : (r13_Last.j2 kj13 l0 l2 x7_1 (a1_0 == 33) x9_1 (rd l2 x9_1) t567 a1_0 a1_1 a1_2 a1_3 a1_4 a1_5) = some r := by rw [if_neg (show ¬ (false = true) by decide)] at H; exact H
         clear H
         have H := H1
         clear H1
         have H' := As_.mk H
         clear H
         go_wp2
         repeat (go_quiet (fail); try go_wp2)
         first | go_meet | (refine Met.intro ?_; go_step; (repeat apply Exists.intro); refine ⟨?rel, by rw [c26b0]⟩)
         case rel => exact ⟨_, (x7_1), (by first | rfl | (simp; done) | (simp [*]; done) | (simp [wrap64]; done) | (congr 1; rw [Bool.eq_iff_iff]; simp; done)), H', ⟨by have := HK1.out; have := HJ13.out; first | omega | exact Nat.le_refl _⟩, ⟨by (with_reducible repeat (first | refine kN_ ?_ _ | refine kD_ ?_ | refine kA_ ?_ _)); exact BK564.out⟩, ⟨by repeat (first | (with_reducible first | exact HB.out | apply bA_ | apply bN_ | apply b1_ | refine bS_ ?_ GE564.out) | exact HB.out)⟩⟩
        case rest =>
         clear HC22
         obtain ⟨kq, x7_21, rfl, HA, HJ21, BK564, HB⟩ := hcut
         cases kq with
         | zero => exact absurd HA.out (by simp [r13_Last.j2])
         | succ kj21 =>
          have H := HA.out
          clear HA
          simp only [r13_Last.j2] at H
          have HC25 := As_.mk H
          clear H
          go_upto_region 12 with (fail)
          repeat (go_quiet (fail); go_upto_region 12 with (fail))
          go_cut [67] (fun v67 wc => ∃ (kq : Nat) (x67_24 : Bool), v67 = .bool x67_24 ∧ As_ (r13_Last.j3 kq l0 l2 x7_21 (a1_0 == 33) x9_1 (rd l2 x9_1) t567 x67_24 a1_0 a1_1 a1_2 a1_3 a1_4 a1_5 = some r) ∧ As_ (kq ≤ kj21) ∧ As_ (wc.heap[gb564]? = some (.cells #[.int .i64 a1_0, .int .i64 a1_1, .int .i64 a1_2, .int .i64 a1_3, .int .i64 a1_4, .string a1_5] 24 (0, 0))) ∧ As_ (Below w.heap.size w wc))
          case first =>
           have H := HC25.out
           clear HC25
           by_cases c26 : (a1_0 == 33) = true
           ·rw [if_pos c26] at H
            have c26b0 : (a1_0 == 33) = true := c26
            (try (have c26b1 : decide (a1_0 = 33) = true := by simpa using c26))
            (try (have c26b2 : (a1_0 == 33) = true := by simpa using c26))
            clear c26
            (first | rw [c26b0] | (simp only [i64_w, i32_w]; rw [c26b0]) | skip)
            have H' := As_.mk H
            clear H
            go_wp2
            repeat (go_quiet (fail); try go_wp2)
            first | go_meet | (refine Met.intro ?_; go_step; (repeat apply Exists.intro); refine ⟨?rel, by rw [c26b0]⟩)
            case rel => exact ⟨_, (true), (by first | rfl | (simp; done) | (simp [*]; done) | (simp [wrap64]; done) | (congr 1; rw [Bool.eq_iff_iff]; simp; done)), H', ⟨by have := HK1.out; have := HJ13.out; have := HJ21.out; first | omega | exact Nat.le_refl _⟩, ⟨by (with_reducible repeat (first | refine kN_ ?_ _ | refine kD_ ?_ | refine kA_ ?_ _)); exact BK564.out⟩, ⟨by repeat (first | (with_reducible first | exact HB.out | apply bA_ | apply bN_ | apply b1_ | refine bS_ ?_ GE564.out) | exact HB.out)⟩⟩
           rw [if_neg c26] at H
           have c26b0 : (a1_0 == 33) = false := by simpa using c26
           (try (have c26b1 : decide (a1_0 = 33) = false := by simpa using c26))
           (try (have c26b2 : (a1_0 == 33) = false := by simpa using c26))
           (try (have c26b3 : ¬ (a1_0 = 33) := by simpa using c26))
           clear c26
           (first | rw [c26b0] | (simp only [i64_w, i32_w]; rw [c26b0]) | skip)
           replace H := Option.bind_eq_some_iff.mp H
           obtain ⟨t574, A270, H⟩ := H
           replace H : (if t574 = true then (if 0 ≤ x9_1 then (if x9_1 < (l0.length : Int) then ((r3_Effect.f ((q24 l0 x9_1).f0)).bind fun t576 => (r13_Last.j3 kj21 l0 l2 x7_21 (a1_0 == 33) x9_1 (rd l2 x9_1) t567 t576 a1_0 a1_1 a1_2 a1_3 a1_4 a1_5)) else (none)) else (none)) else (r13_Last.j3 kj21 l0 l2 x7_21 (a1_0 == 33) x9_1 (rd l2 x9_1) t567 false a1_0 a1_1 a1_2 a1_3 a1_4 a1_5)) = some r := H
           have A27 := As_.mk A270
           clear A270
           by_cases c28 : t574 = true
           ·subst c28
            have H1 : (if 0 ≤ x9_1 then (if x9_1 < (l0.length : Int) then ((r3_Effect.f ((q24 l0 x9_1).f0)).bind fun t576 => (r13_Last.j3 kj21 l0 l2 x7_21 (a1_0 == 33) x9_1 (rd l2 x9_1) t567 t576 a1_0 a1_1 a1_2 a1_3 a1_4 a1_5)) else (none)) else (none)) = some r := by rw [if_pos rfl] at H; exact H
            clear H
            have H := H1
            clear H1
            by_cases c29 : 0 ≤ x9_1
            ·rw [if_pos c29] at H
             have c29b0 : decide (0 ≤ x9_1) = true := decide_eq_true c29
             clear c29
             by_cases c30 : x9_1 < (l0.length : Int)
             ·rw [if_pos c30] at H
              have c30b0 : decide (x9_1 < (l0.length : Int)) = true := decide_eq_true c30
              clear c30
              replace H := Option.bind_eq_some_iff.mp H
              obtain ⟨t576, A310, H⟩ := H
              replace H : (r13_Last.j3 kj21 l0 l2 x7_21 (a1_0 == 33) x9_1 (rd l2 x9_1) t567 t576 a1_0 a1_1 a1_2 a1_3 a1_4 a1_5) = some r := H
              have A31 := As_.mk A310
              clear A310
              have H' := As_.mk H
              clear H
              have hcz32_0 : wc.cell? ⟨gb564, 0, none⟩ = some (.int .i64 a1_0) := (bC_ BK564.out 0).trans rfl
              have hcz32_1 : wc.cell? ⟨gb564, 1, none⟩ = some (.int .i64 a1_1) := (bC_ BK564.out 1).trans rfl
              have hcz32_2 : wc.cell? ⟨gb564, 2, none⟩ = some (.int .i64 a1_2) := (bC_ BK564.out 2).trans rfl
              have hcz32_3 : wc.cell? ⟨gb564, 3, none⟩ = some (.int .i64 a1_3) := (bC_ BK564.out 3).trans rfl
              have hcz32_4 : wc.cell? ⟨gb564, 4, none⟩ = some (.int .i64 a1_4) := (bC_ BK564.out 4).trans rfl
              have hcz32_5 : wc.cell? ⟨gb564, 5, none⟩ = some (.string a1_5) := (bC_ BK564.out 5).trans rfl
              have hfz32_0 := bZ_ BK564.out 0
              have hfz32_1 := bZ_ BK564.out 1
              have hfz32_2 := bZ_ BK564.out 2
              have hfz32_3 := bZ_ BK564.out 3
              have hfz32_4 := bZ_ BK564.out 4
              have hfz32_5 := bZ_ BK564.out 5
              go_wp2_with (first | (go_at_call 36; (with_reducible refine (r3_Effect.calls a1_0 true _ A27.out).mono ?_); rintro e w' ⟨rfl, ⟨nd, rfl⟩⟩; (try first | exact ⟨rfl, _, World.drewN_drewN _ _ _⟩ | exact ⟨rfl, _, Eq.trans (World.drewN_drewN _ _ _) (congrArg (World.drewN _) (Nat.add_assoc _ _ _))⟩); have p575 : 0 ≤ (x9_1 : Int) := of_decide_eq_true (by assumption); have q575 : x9_1 < (l0.length : Int) := of_decide_eq_true (by assumption); obtain ⟨ad575, e575, hx575_0, hx575_1, hx575_2, hx575_3, hx575_4, hx575_5⟩ := at_T24 HR0.out x9_1 p575 q575; obtain rfl : ad566 = ad575 := (by injection e575); replace hx575_0 := (HB.out.cell (World.block_lt_of_cell? w _ hx575_0)).trans hx575_0; replace hx575_1 := (HB.out.cell (World.block_lt_of_cell? w _ hx575_1)).trans hx575_1; replace hx575_2 := (HB.out.cell (World.block_lt_of_cell? w _ hx575_2)).trans hx575_2; replace hx575_3 := (HB.out.cell (World.block_lt_of_cell? w _ hx575_3)).trans hx575_3; replace hx575_4 := (HB.out.cell (World.block_lt_of_cell? w _ hx575_4)).trans hx575_4; replace hx575_5 := (HB.out.cell (World.block_lt_of_cell? w _ hx575_5)).trans hx575_5; replace p575 := eq_true p575; replace q575 := eq_true q575) | (go_at_call 36; (with_reducible refine (r3_Effect.calls ((q24 l0 x9_1).f0) t576 _ A31.out).mono ?_); rintro e w' ⟨rfl, ⟨nd, rfl⟩⟩; (try first | exact ⟨rfl, _, World.drewN_drewN _ _ _⟩ | exact ⟨rfl, _, Eq.trans (World.drewN_drewN _ _ _) (congrArg (World.drewN _) (Nat.add_assoc _ _ _))⟩)))
              repeat (go_quiet (first | (go_at_call 36; (with_reducible refine (r3_Effect.calls a1_0 true _ A27.out).mono ?_); rintro e w' ⟨rfl, ⟨nd, rfl⟩⟩; (try first | exact ⟨rfl, _, World.drewN_drewN _ _ _⟩ | exact ⟨rfl, _, Eq.trans (World.drewN_drewN _ _ _) (congrArg (World.drewN _) (Nat.add_assoc _ _ _))⟩); have p575 : 0 ≤ (x9_1 : Int) := of_decide_eq_true (by assumption); have q575 : x9_1 < (l0.length : Int) := of_decide_eq_true (by assumption); obtain ⟨ad575, e575, hx575_0, hx575_1, hx575_2, hx575_3, hx575_4, hx575_5⟩ := at_T24 HR0.out x9_1 p575 q575; obtain rfl : ad566 = ad575 := (by injection e575); replace hx575_0 := (HB.out.cell (World.block_lt_of_cell? w _ hx575_0)).trans hx575_0; replace hx575_1 := (HB.out.cell (World.block_lt_of_cell? w _ hx575_1)).trans hx575_1; replace hx575_2 := (HB.out.cell (World.block_lt_of_cell? w _ hx575_2)).trans hx575_2; replace hx575_3 := (HB.out.cell (World.block_lt_of_cell? w _ hx575_3)).trans hx575_3; replace hx575_4 := (HB.out.cell (World.block_lt_of_cell? w _ hx575_4)).trans hx575_4; replace hx575_5 := (HB.out.cell (World.block_lt_of_cell? w _ hx575_5)).trans hx575_5; replace p575 := eq_true p575; replace q575 := eq_true q575) | (go_at_call 36; (with_reducible refine (r3_Effect.calls ((q24 l0 x9_1).f0) t576 _ A31.out).mono ?_); rintro e w' ⟨rfl, ⟨nd, rfl⟩⟩; (try first | exact ⟨rfl, _, World.drewN_drewN _ _ _⟩ | exact ⟨rfl, _, Eq.trans (World.drewN_drewN _ _ _) (congrArg (World.drewN _) (Nat.add_assoc _ _ _))⟩))); try go_wp2_with (first | (go_at_call 36; (with_reducible refine (r3_Effect.calls a1_0 true _ A27.out).mono ?_); rintro e w' ⟨rfl, ⟨nd, rfl⟩⟩; (try first | exact ⟨rfl, _, World.drewN_drewN _ _ _⟩ | exact ⟨rfl, _, Eq.trans (World.drewN_drewN _ _ _) (congrArg (World.drewN _) (Nat.add_assoc _ _ _))⟩); have p575 : 0 ≤ (x9_1 : Int) := of_decide_eq_true (by assumption); have q575 : x9_1 < (l0.length : Int) := of_decide_eq_true (by assumption); obtain ⟨ad575, e575, hx575_0, hx575_1, hx575_2, hx575_3, hx575_4, hx575_5⟩ := at_T24 HR0.out x9_1 p575 q575; obtain rfl : ad566 = ad575 := (by injection e575); replace hx575_0 := (HB.out.cell (World.block_lt_of_cell? w _ hx575_0)).trans hx575_0; replace hx575_1 := (HB.out.cell (World.block_lt_of_cell? w _ hx575_1)).trans hx575_1; replace hx575_2 := (HB.out.cell (World.block_lt_of_cell? w _ hx575_2)).trans hx575_2; replace hx575_3 := (HB.out.cell (World.block_lt_of_cell? w _ hx575_3)).trans hx575_3; replace hx575_4 := (HB.out.cell (World.block_lt_of_cell? w _ hx575_4)).trans hx575_4; replace hx575_5 := (HB.out.cell (World.block_lt_of_cell? w _ hx575_5)).trans hx575_5; replace p575 := eq_true p575; replace q575 := eq_true q575) | (go_at_call 36; (with_reducible refine (r3_Effect.calls ((q24 l0 x9_1).f0) t576 _ A31.out).mono ?_); rintro e w' ⟨rfl, ⟨nd, rfl⟩⟩; (try first | exact ⟨rfl, _, World.drewN_drewN _ _ _⟩ | exact ⟨rfl, _, Eq.trans (World.drewN_drewN _ _ _) (congrArg (World.drewN _) (Nat.add_assoc _ _ _))⟩))))
              first | go_meet | (refine Met.intro ?_; go_step; (repeat apply Exists.intro); refine ⟨?rel, by rw [c26b0]⟩)
              case rel => exact ⟨_, (t576), (by first | rfl | (simp; done) | (simp [*]; done) | (simp [wrap64]; done) | (congr 1; rw [Bool.eq_iff_iff]; simp; done)), H', ⟨by have := HK1.out; have := HJ13.out; have := HJ21.out; first | omega | exact Nat.le_refl _⟩, ⟨by (with_reducible repeat (first | refine kN_ ?_ _ | refine kD_ ?_ | refine kA_ ?_ _)); exact BK564.out⟩, ⟨by repeat (first | (with_reducible first | exact HB.out | apply bA_ | apply bN_ | apply b1_ | refine bS_ ?_ GE564.out) | exact HB.out)⟩⟩
             rw [if_neg c30] at H
             exact absurd H (by simp)
            rw [if_neg c29] at H
            exact absurd H (by simp)
           replace c28 := Bool.eq_false_iff.mpr c28
           subst c28
           have H1 : (r13_Last.j3 kj21 l0 l2 x7_21 (a1_0 == 33) x9_1 (rd l2 x9_1) t567 false a1_0 a1_1 a1_2 a1_3 a1_4 a1_5) = some r := by rw [if_neg (show ¬ (false = true) by decide)] at H; exact H
           clear H
           have H := H1
           clear H1
           have H' := As_.mk H
           clear H
           have hcz33_0 : wc.cell? ⟨gb564, 0, none⟩ = some (.int .i64 a1_0) := (bC_ BK564.out 0).trans rfl
           have hcz33_1 : wc.cell? ⟨gb564, 1, none⟩ = some (.int .i64 a1_1) := (bC_ BK564.out 1).trans rfl
           have hcz33_2 : wc.cell? ⟨gb564, 2, none⟩ = some (.int .i64 a1_2) := (bC_ BK564.out 2).trans rfl
           have hcz33_3 : wc.cell? ⟨gb564, 3, none⟩ = some (.int .i64 a1_3) := (bC_ BK564.out 3).trans rfl
           have hcz33_4 : wc.cell? ⟨gb564, 4, none⟩ = some (.int .i64 a1_4) := (bC_ BK564.out 4).trans rfl
           have hcz33_5 : wc.cell? ⟨gb564, 5, none⟩ = some (.string a1_5) := (bC_ BK564.out 5).trans rfl
           have hfz33_0 := bZ_ BK564.out 0
           have hfz33_1 := bZ_ BK564.out 1
           have hfz33_2 := bZ_ BK564.out 2
           have hfz33_3 := bZ_ BK564.out 3
           have hfz33_4 := bZ_ BK564.out 4
           have hfz33_5 := bZ_ BK564.out 5
           go_wp2_with (first | (go_at_call 36; (with_reducible refine (r3_Effect.calls a1_0 false _ A27.out).mono ?_); rintro e w' ⟨rfl, ⟨nd, rfl⟩⟩; (try first | exact ⟨rfl, _, World.drewN_drewN _ _ _⟩ | exact ⟨rfl, _, Eq.trans (World.drewN_drewN _ _ _) (congrArg (World.drewN _) (Nat.add_assoc _ _ _))⟩)))
           repeat (go_quiet (first | (go_at_call 36; (with_reducible refine (r3_Effect.calls a1_0 false _ A27.out).mono ?_); rintro e w' ⟨rfl, ⟨nd, rfl⟩⟩; (try first | exact ⟨rfl, _, World.drewN_drewN _ _ _⟩ | exact ⟨rfl, _, Eq.trans (World.drewN_drewN _ _ _) (congrArg (World.drewN _) (Nat.add_assoc _ _ _))⟩))); try go_wp2_with (first | (go_at_call 36; (with_reducible refine (r3_Effect.calls a1_0 false _ A27.out).mono ?_); rintro e w' ⟨rfl, ⟨nd, rfl⟩⟩; (try first | exact ⟨rfl, _, World.drewN_drewN _ _ _⟩ | exact ⟨rfl, _, Eq.trans (World.drewN_drewN _ _ _) (congrArg (World.drewN _) (Nat.add_assoc _ _ _))⟩))))
           first | go_meet | (refine Met.intro ?_; go_step; (repeat apply Exists.intro); refine ⟨?rel, by rw [c26b0]⟩)
           case rel => exact ⟨_, (false), (by first | rfl | (simp; done) | (simp [*]; done) | (simp [wrap64]; done) | (congr 1; rw [Bool.eq_iff_iff]; simp; done)), H', ⟨by have := HK1.out; have := HJ13.out; have := HJ21.out; first | omega | exact Nat.le_refl _⟩, ⟨by (with_reducible repeat (first | refine kN_ ?_ _ | refine kD_ ?_ | refine kA_ ?_ _)); exact BK564.out⟩, ⟨by repeat (first | (with_reducible first | exact HB.out | apply bA_ | apply bN_ | apply b1_ | refine bS_ ?_ GE564.out) | exact HB.out)⟩⟩
          case rest =>
           clear HC25
           obtain ⟨kq, x67_24, rfl, HA, HJ24, BK564, HB⟩ := hcut
           cases kq with
           | zero => exact absurd HA.out (by simp [r13_Last.j3])
           | succ kj24 =>
            have H := HA.out
            clear HA
            simp only [r13_Last.j3] at H
            have HC34 := As_.mk H
            clear H
            go_upto_if 67 with (fail)
            repeat (go_quiet (fail); go_upto_if 67 with (fail))
            go_cut [7] (fun v7 wc => ∃ (kq : Nat) (x7_33 : Int), v7 = .int .i64 x7_33 ∧ As_ (r13_Last.j4 kq l0 l2 x7_33 (a1_0 == 33) x9_1 (rd l2 x9_1) t567 a1_0 a1_1 a1_2 a1_3 a1_4 a1_5 = some r) ∧ As_ (kq ≤ kj24) ∧ As_ (wc.heap[gb564]? = some (.cells #[.int .i64 a1_0, .int .i64 a1_1, .int .i64 a1_2, .int .i64 a1_3, .int .i64 a1_4, .string a1_5] 24 (0, 0))) ∧ As_ (Below w.heap.size w wc))
            case first =>
             have H := HC34.out
             clear HC34
             by_cases c35 : x67_24 = true
             ·subst c35
              have H1 : (r13_Last.j4 kj24 l0 l2 (mx x7_21 (wrap64 ((rd l2 x9_1) + 1))) (a1_0 == 33) x9_1 (rd l2 x9_1) t567 a1_0 a1_1 a1_2 a1_3 a1_4 a1_5) = some r := by rw [if_pos rfl] at H; exact H
              clear H
              have H := H1
              clear H1
              obtain ⟨ji36, hji36⟩ : ∃ j_ : Int, (mx x7_21 (wrap64 ((rd l2 x9_1) + 1))) = j_ := ⟨_, rfl⟩
              replace H : (r13_Last.j4 kj24 l0 l2 ji36 (a1_0 == 33) x9_1 (rd l2 x9_1) t567 a1_0 a1_1 a1_2 a1_3 a1_4 a1_5) = some r := by first | (rw [hji36] at H; exact H) | (simp only [hji36] at H ⊢; exact H)
              have hji36_ : (if x7_21 < (wrap64 ((rd l2 x9_1) + 1)) then (wrap64 ((rd l2 x9_1) + 1)) else x7_21) = ji36 := hji36
              have H' := As_.mk H
              clear H
              go_wp2
              repeat (go_quiet (fail); try go_wp2)
              first | go_meet | (refine Met.intro ?_; go_step; (repeat apply Exists.intro); refine ⟨?rel, by rw [c26b0]⟩)
              case rel => exact ⟨_, (ji36), (by first | rfl | (simp; done) | (simp only [← hji36] <;> (first | rfl | simp)) | (simp [*]; done) | (congr 1; rw [Bool.eq_iff_iff]; simp; done)), H', ⟨by have := HK1.out; have := HJ13.out; have := HJ21.out; have := HJ24.out; first | omega | exact Nat.le_refl _⟩, ⟨by (with_reducible repeat (first | refine kN_ ?_ _ | refine kD_ ?_ | refine kA_ ?_ _)); exact BK564.out⟩, ⟨by repeat (first | (with_reducible first | exact HB.out | apply bA_ | apply bN_ | apply b1_ | refine bS_ ?_ GE564.out) | exact HB.out)⟩⟩
             replace c35 := Bool.eq_false_iff.mpr c35
             subst c35
             have H1 : (r13_Last.j4 kj24 l0 l2 x7_21 (a1_0 == 33) x9_1 (rd l2 x9_1) t567 a1_0 a1_1 a1_2 a1_3 a1_4 a1_5) = some r := by rw [if_neg (show ¬ (false = true) by decide)] at H; exact H
             clear H
             have H := H1
             clear H1
             have H' := As_.mk H
             clear H
             go_wp2
             repeat (go_quiet (fail); try go_wp2)
             first | go_meet | (refine Met.intro ?_; go_step; (repeat apply Exists.intro); refine ⟨?rel, by rw [c26b0]⟩)
             case rel => exact ⟨_, (x7_21), (by first | rfl | (simp; done) | (simp [*]; done) | (simp [wrap64]; done) | (congr 1; rw [Bool.eq_iff_iff]; simp; done)), H', ⟨by have := HK1.out; have := HJ13.out; have := HJ21.out; have := HJ24.out; first | omega | exact Nat.le_refl _⟩, ⟨by (with_reducible repeat (first | refine kN_ ?_ _ | refine kD_ ?_ | refine kA_ ?_ _)); exact BK564.out⟩, ⟨by repeat (first | (with_reducible first | exact HB.out | apply bA_ | apply bN_ | apply b1_ | refine bS_ ?_ GE564.out) | exact HB.out)⟩⟩
            case rest =>
             clear HC34
             obtain ⟨kq, x7_33, rfl, HA, HJ33, BK564, HB⟩ := hcut
             cases kq with
             | zero => exact absurd HA.out (by simp [r13_Last.j4])
             | succ kj33 =>
              have H := HA.out
              clear HA
              simp only [r13_Last.j4] at H
              by_cases c37 : (a1_0 == 33) = true
              ·rw [if_pos c37] at H
               have c37b0 : (a1_0 == 33) = true := c37
               (try (have c37b1 : decide (a1_0 = 33) = true := by simpa using c37))
               (try (have c37b2 : (a1_0 == 33) = true := by simpa using c37))
               clear c37
               have H' := As_.mk H
               clear H
               go_wp2
               repeat (go_quiet (fail); try go_wp2)
               go_roundg kj33
               case measure => have := HK1.out; have := HJ13.out; have := HJ21.out; have := HJ24.out; have := HJ33.out; omega
               case rel => exact ⟨(x7_33), (wrap64 (x9_1 + 1)), (by first | rfl | (simp; done) | (simp [*]; done) | (simp [wrap64]; done) | (congr 1; rw [Bool.eq_iff_iff]; simp; done)), (by first | rfl | (simp; done) | (simp [*]; done) | (simp [wrap64]; done) | (congr 1; rw [Bool.eq_iff_iff]; simp; done)), H', ⟨by have := HK1.out; have := HJ13.out; have := HJ21.out; have := HJ24.out; have := HJ33.out; omega⟩, ⟨by (with_reducible repeat (first | refine kN_ ?_ _ | refine kD_ ?_ | refine kA_ ?_ _)); exact BK564.out⟩, ⟨by repeat (first | (with_reducible first | exact HB.out | apply bA_ | apply bN_ | apply b1_ | refine bS_ ?_ GE564.out) | exact HB.out)⟩⟩
              rw [if_neg c37] at H
              have c37b0 : (a1_0 == 33) = false := by simpa using c37
              (try (have c37b1 : decide (a1_0 = 33) = false := by simpa using c37))
              (try (have c37b2 : (a1_0 == 33) = false := by simpa using c37))
              (try (have c37b3 : ¬ (a1_0 = 33) := by simpa using c37))
              clear c37
              obtain ⟨ji38, hji38⟩ : ∃ j_ : Int, (mx x7_33 (wrap64 ((rd l2 x9_1) - 2))) = j_ := ⟨_, rfl⟩
              replace H : (r13_Last.l0 kj33 l0 l2 (mx (ji38) (wrap64 ((wrap64 ((wrap64 ((rd l2 x9_1) + t567)) - 2)) - 1))) (a1_0 == 33) (wrap64 (x9_1 + 1)) a1_0 a1_1 a1_2 a1_3 a1_4 a1_5) = some r := by first | (rw [hji38] at H; exact H) | (simp only [hji38] at H ⊢; exact H)
              have hji38_ : (if x7_33 < (wrap64 ((rd l2 x9_1) - 2)) then (wrap64 ((rd l2 x9_1) - 2)) else x7_33) = ji38 := hji38
              obtain ⟨ji39, hji39⟩ : ∃ j_ : Int, (mx (ji38) (wrap64 ((wrap64 ((wrap64 ((rd l2 x9_1) + t567)) - 2)) - 1))) = j_ := ⟨_, rfl⟩
              replace H : (r13_Last.l0 kj33 l0 l2 ji39 (a1_0 == 33) (wrap64 (x9_1 + 1)) a1_0 a1_1 a1_2 a1_3 a1_4 a1_5) = some r := by first | (rw [hji39] at H; exact H) | (simp only [hji39] at H ⊢; exact H)
              have hji39_ : (if (ji38) < (wrap64 ((wrap64 ((wrap64 ((rd l2 x9_1) + t567)) - 2)) - 1)) then (wrap64 ((wrap64 ((wrap64 ((rd l2 x9_1) + t567)) - 2)) - 1)) else (ji38)) = ji39 := hji39
              have H' := As_.mk H
              clear H
              go_wp2
              repeat (go_quiet (fail); try go_wp2)
              go_roundg kj33
              case measure => have := HK1.out; have := HJ13.out; have := HJ21.out; have := HJ24.out; have := HJ33.out; omega
              case rel => exact ⟨(ji39), (wrap64 (x9_1 + 1)), (by first | rfl | (simp; done) | (simp only [← hji39] <;> (first | rfl | simp)) | (simp [*]; done) | (congr 1; rw [Bool.eq_iff_iff]; simp; done)), (by first | rfl | (simp; done) | (simp [*]; done) | (simp [wrap64]; done) | (congr 1; rw [Bool.eq_iff_iff]; simp; done)), H', ⟨by have := HK1.out; have := HJ13.out; have := HJ21.out; have := HJ24.out; have := HJ33.out; omega⟩, ⟨by (with_reducible repeat (first | refine kN_ ?_ _ | refine kD_ ?_ | refine kA_ ?_ _)); exact BK564.out⟩, ⟨by repeat (first | (with_reducible first | exact HB.out | apply bA_ | apply bN_ | apply b1_ | refine bS_ ?_ GE564.out) | exact HB.out)⟩⟩
     rw [if_neg c11] at H
     exact absurd H (by simp)
    rw [if_neg c10] at H
    exact absurd H (by simp)
   rw [if_neg c9] at H
   have c9b0 : decide (x9_1 < (l0.length : Int)) = false := decide_eq_false c9
   clear c9
   obtain rfl := Option.some.inj H
   go_wp2
   repeat (go_quiet (fail); try go_wp2)
   go_ret
   exact ⟨by first | rfl | (simp [eN_, eS_] <;> rfl) | (simp [*, eN_, eS_] <;> rfl), by repeat (first | (with_reducible first | exact HB.out | apply bA_ | apply bN_ | apply b1_ | refine bS_ ?_ GE564.out) | exact HB.out)⟩
end Go.Proofs.Ytibfkkjkahpobaa.PDag
