-- the texts that this claim needs, out of this session's and its print's (wip/shrink.py)
import Derived.Test.YtibfkkjkahpobaaPDagx0K
import Derived.Test.YtibfkkjkahpobaaPDagx10K
import Derived.Test.YtibfkkjkahpobaaPDagx11K
namespace Go.Proofs.Ytibfkkjkahpobaa.PDag
open Go.RowKit Go.Proofs.YtibfkkjkahpobaaW.PrintWords Go.Proofs.YtibfkkjkahpobaaW.PrintLast Go.Proofs.YtibfkkjkahpobaaW.PrintMore
attribute [local go_sem] max2_int min2_int max_two min_two max_three min_three max_four min_four   -- for this text's walks alone
set_option linter.unusedVariables false
set_option linter.unusedSimpArgs false
mutual
def r13_dist.j0 : Nat → Int → Int → Int → Bool → Int → Int → Int → Int → Int → ByteArray → Int → Int → Int → Int → Int → ByteArray → Option (Int)
 | 0, _, _, _, _, _, _, _, _, _, _, _, _, _, _, _, _ => none
 | k + 1, x5, x6, x7, x20, x217a, x217b, x217c, x217d, x217e, x217f, x218a, x218b, x218c, x218d, x218e, x218f => if x20 = true then (r13_dist.j1 k 0 x6 x7 x217a x217b x217c x217d x217e x217f x218a x218b x218c x218d x218e x218f) else (r13_dist.j1 k x5 x6 x7 x217a x217b x217c x217d x217e x217f x218a x218b x218c x218d x218e x218f)
def r13_dist.j1 : Nat → Int → Int → Int → Int → Int → Int → Int → Int → ByteArray → Int → Int → Int → Int → Int → ByteArray → Option (Int)
 | 0, _, _, _, _, _, _, _, _, _, _, _, _, _, _, _ => none
 | k + 1, x5, x6, x7, x217a, x217b, x217c, x217d, x217e, x217f, x218a, x218b, x218c, x218d, x218e, x218f => (r3_Effect.f x217a).bind fun t224 => (if t224 = true then ((r3_Effect.f x218a).bind fun t225 => (r13_dist.j2 k x5 x6 x7 t225 x217a x217b x217c x217d x217e x217f x218a x218b x218c x218d x218e x218f)) else (r13_dist.j2 k x5 x6 x7 false x217a x217b x217c x217d x217e x217f x218a x218b x218c x218d x218e x218f))
def r13_dist.j2 : Nat → Int → Int → Int → Bool → Int → Int → Int → Int → Int → ByteArray → Int → Int → Int → Int → Int → ByteArray → Option (Int)
 | 0, _, _, _, _, _, _, _, _, _, _, _, _, _, _, _, _ => none
 | k + 1, x5, x6, x7, x28, x217a, x217b, x217c, x217d, x217e, x217f, x218a, x218b, x218c, x218d, x218e, x218f => if x28 = true then (r13_dist.j3 k 1 x6 x7 x217a x217b x217c x217d x217e x217f x218a x218b x218c x218d x218e x218f) else (r13_dist.j3 k x5 x6 x7 x217a x217b x217c x217d x217e x217f x218a x218b x218c x218d x218e x218f)
def r13_dist.j3 : Nat → Int → Int → Int → Int → Int → Int → Int → Int → ByteArray → Int → Int → Int → Int → Int → ByteArray → Option (Int)
 | 0, _, _, _, _, _, _, _, _, _, _, _, _, _, _, _ => none
 | k + 1, x5, x6, x7, x217a, x217b, x217c, x217d, x217e, x217f, x218a, x218b, x218c, x218d, x218e, x218f => if x6 ≥ 0 then (if x6 = x7 then (r13_dist.j4 k x5 true x217a x217b x217c x217d x217e x217f) else ((r3_Reads.f k x218a x218b x218c x218d x218e x218f).bind fun t226 => ((r0_In.f k t226 x6).bind fun t229 => (r13_dist.j4 k x5 (decide (t229 ≥ 0)) x217a x217b x217c x217d x217e x217f)))) else (r13_dist.j4 k x5 false x217a x217b x217c x217d x217e x217f)
def r13_dist.j4 : Nat → Int → Bool → Int → Int → Int → Int → Int → ByteArray → Option (Int)
 | 0, _, _, _, _, _, _, _, _ => none
 | k + 1, x5, x42, x217a, x217b, x217c, x217d, x217e, x217f => if x42 = true then ((r3_Latency.f k x217a).bind fun t230 => (some (mx x5 t230))) else (some x5)
end
def r13_dist.f (k : Nat) (a0_0 : Int) (a0_1 : Int) (a0_2 : Int) (a0_3 : Int) (a0_4 : Int) (a0_5 : ByteArray) (a1_0 : Int) (a1_1 : Int) (a1_2 : Int) (a1_3 : Int) (a1_4 : Int) (a1_5 : ByteArray) : Option (Int) := (r3_Writes.f a0_0 a0_1 a0_2 a0_3 a0_4 a0_5).bind fun t218 => ((r3_Writes.f a1_0 a1_1 a1_2 a1_3 a1_4 a1_5).bind fun t219 => (if t219 ≥ 0 then ((r3_Reads.f k a0_0 a0_1 a0_2 a0_3 a0_4 a0_5).bind fun t220 => ((r0_In.f k t220 t219).bind fun t223 => (r13_dist.j0 k (-1) t218 t219 (decide (t223 ≥ 0)) a0_0 a0_1 a0_2 a0_3 a0_4 a0_5 a1_0 a1_1 a1_2 a1_3 a1_4 a1_5))) else (r13_dist.j0 k (-1) t218 t219 false a0_0 a0_1 a0_2 a0_3 a0_4 a0_5 a1_0 a1_1 a1_2 a1_3 a1_4 a1_5)))
set_option maxHeartbeats 8000000 in
set_option maxRecDepth 100000 in
theorem r13_dist.calls (k : Nat) (a0_0 : Int) (a0_1 : Int) (a0_2 : Int) (a0_3 : Int) (a0_4 : Int) (a0_5 : ByteArray) (a1_0 : Int) (a1_1 : Int) (a1_2 : Int) (a1_3 : Int) (a1_4 : Int) (a1_5 : ByteArray) (r : Int) (w : World) (h : r13_dist.f k a0_0 a0_1 a0_2 a0_3 a0_4 a0_5 a1_0 a1_1 a1_2 a1_3 a1_4 a1_5 = some r) :
  Calls Try.prog 58 #[.agg #[.int .i64 a0_0, .int .i64 a0_1, .int .i64 a0_2, .int .i64 a0_3, .int .i64 a0_4, .string a0_5], .agg #[.int .i64 a1_0, .int .i64 a1_1, .int .i64 a1_2, .int .i64 a1_3, .int .i64 a1_4, .string a1_5]] w fun e w' => e = .returned (.int .i64 r) ∧ Below w.heap.size w w' := by
 have hu24 := Try.underlying24
 have HB := Aside0.mk (Below.refl w.heap.size w)
 have H : ((r3_Writes.f a0_0 a0_1 a0_2 a0_3 a0_4 a0_5).bind fun t218 => ((r3_Writes.f a1_0 a1_1 a1_2 a1_3 a1_4 a1_5).bind fun t219 => (if t219 ≥ 0 then ((r3_Reads.f k a0_0 a0_1 a0_2 a0_3 a0_4 a0_5).bind fun t220 => ((r0_In.f k t220 t219).bind fun t223 => (r13_dist.j0 k (-1) t218 t219 (decide (t223 ≥ 0)) a0_0 a0_1 a0_2 a0_3 a0_4 a0_5 a1_0 a1_1 a1_2 a1_3 a1_4 a1_5))) else (r13_dist.j0 k (-1) t218 t219 false a0_0 a0_1 a0_2 a0_3 a0_4 a0_5 a1_0 a1_1 a1_2 a1_3 a1_4 a1_5)))) = some r := h
 clear h
 replace H := Option.bind_eq_some_iff.mp H
 obtain ⟨t218, A30, H⟩ := H
 replace H : ((r3_Writes.f a1_0 a1_1 a1_2 a1_3 a1_4 a1_5).bind fun t219 => (if t219 ≥ 0 then ((r3_Reads.f k a0_0 a0_1 a0_2 a0_3 a0_4 a0_5).bind fun t220 => ((r0_In.f k t220 t219).bind fun t223 => (r13_dist.j0 k (-1) t218 t219 (decide (t223 ≥ 0)) a0_0 a0_1 a0_2 a0_3 a0_4 a0_5 a1_0 a1_1 a1_2 a1_3 a1_4 a1_5))) else (r13_dist.j0 k (-1) t218 t219 false a0_0 a0_1 a0_2 a0_3 a0_4 a0_5 a1_0 a1_1 a1_2 a1_3 a1_4 a1_5))) = some r := H
 have A3 := Aside0.mk A30
 clear A30
 replace H := Option.bind_eq_some_iff.mp H
 obtain ⟨t219, A40, H⟩ := H
 replace H : (if t219 ≥ 0 then ((r3_Reads.f k a0_0 a0_1 a0_2 a0_3 a0_4 a0_5).bind fun t220 => ((r0_In.f k t220 t219).bind fun t223 => (r13_dist.j0 k (-1) t218 t219 (decide (t223 ≥ 0)) a0_0 a0_1 a0_2 a0_3 a0_4 a0_5 a1_0 a1_1 a1_2 a1_3 a1_4 a1_5))) else (r13_dist.j0 k (-1) t218 t219 false a0_0 a0_1 a0_2 a0_3 a0_4 a0_5 a1_0 a1_1 a1_2 a1_3 a1_4 a1_5)) = some r := H
 have A4 := Aside0.mk A40
 clear A40
 have HC5 := Aside0.mk H
 clear H
 go_enter Try.func58, Try.ntmps58
 try go_wp2_with (first | ((with_reducible refine gate_dst (N := 2) rfl ?_); refine box_event ?hg (N := 2) ?hd (cs := #[.int .i64 a0_0, .int .i64 a0_1, .int .i64 a0_2, .int .i64 a0_3, .int .i64 a0_4, .string a0_5]) (t := 24) ?hr ?_; (case hd => rfl); (case hg => rfl); (case hr => first | (go_simp; done) | (go_simp; rfl)); intro gb216 hg w6 hbox hb; have n0_ := Aside0.mk (below_step (by repeat (first | (with_reducible first | exact HB.out | apply below_alloc | apply pw_below_drewN | apply below_drew1) | exact HB.out)) hb); have n1_ := Aside0.mk (hbox); have n2_ := Aside0.mk ((by rw [hg]; exact (below_size (by repeat (first | (with_reducible first | exact HB.out | apply below_alloc | apply pw_below_drewN | apply below_drew1) | exact HB.out))) : w.heap.size ≤ gb216)); have n3_ := Aside0.mk ((by rw [hg]; exact (below_size (by repeat (first | (with_reducible first | exact HB.out | apply below_alloc | apply pw_below_drewN | apply below_drew1) | exact HB.out))) : w.heap.size ≤ gb216)); clear HB; have HB := n0_; have BK216 := n1_; have GW216 := n2_; have GE216 := n3_; clear n0_ n1_ n2_ n3_; clear hb hbox hg) | ((with_reducible refine gate_dst (N := 3) rfl ?_); refine box_event ?hg (N := 3) ?hd (cs := #[.int .i64 a1_0, .int .i64 a1_1, .int .i64 a1_2, .int .i64 a1_3, .int .i64 a1_4, .string a1_5]) (t := 24) ?hr ?_; (case hd => rfl); (case hg => rfl); (case hr => first | (go_simp; done) | (go_simp; rfl)); intro gb217 hg w7 hbox hb; have n0_ := Aside0.mk (blk_below (g := gb216) (o := .cells #[.int .i64 a0_0, .int .i64 a0_1, .int .i64 a0_2, .int .i64 a0_3, .int .i64 a0_4, .string a0_5] 24 (0, 0)) (by (with_reducible repeat (first | refine blk_drewN ?_ _ | refine blk_drew ?_ | refine blk_alloc ?_ _)); exact BK216.out) hb); have n1_ := Aside0.mk (below_step (by repeat (first | (with_reducible first | exact HB.out | apply below_alloc | apply pw_below_drewN | apply below_drew1 | refine below_set ?_ GE216.out) | exact HB.out)) hb); have n2_ := Aside0.mk (hbox); have n3_ := Aside0.mk ((by rw [hg]; exact (below_size (by repeat (first | (with_reducible first | exact HB.out | apply below_alloc | apply pw_below_drewN | apply below_drew1 | refine below_set ?_ GE216.out) | exact HB.out))) : w.heap.size ≤ gb217)); have n4_ := Aside0.mk ((by rw [hg]; exact (below_size (by repeat (first | (with_reducible first | exact HB.out | apply below_alloc | apply pw_below_drewN | apply below_drew1 | refine below_set ?_ GE216.out) | exact HB.out))) : w.heap.size ≤ gb217)); have n5_ := Aside0.mk ((by rw [hg]; exact Nat.ne_of_lt (blk_lt (g := gb216) (o := .cells #[.int .i64 a0_0, .int .i64 a0_1, .int .i64 a0_2, .int .i64 a0_3, .int .i64 a0_4, .string a0_5] 24 (0, 0)) (by (with_reducible repeat (first | refine blk_drewN ?_ _ | refine blk_drew ?_ | refine blk_alloc ?_ _)); exact BK216.out)) : gb216 ≠ gb217)); have n6_ := Aside0.mk ((by rw [hg]; exact Nat.ne_of_gt (blk_lt (g := gb216) (o := .cells #[.int .i64 a0_0, .int .i64 a0_1, .int .i64 a0_2, .int .i64 a0_3, .int .i64 a0_4, .string a0_5] 24 (0, 0)) (by (with_reducible repeat (first | refine blk_drewN ?_ _ | refine blk_drew ?_ | refine blk_alloc ?_ _)); exact BK216.out)) : gb217 ≠ gb216)); clear BK216; clear HB; have BK216 := n0_; have HB := n1_; have BK217 := n2_; have GW217 := n3_; have GE217 := n4_; have NB216_217 := n5_; have NB217_216 := n6_; clear n0_ n1_ n2_ n3_ n4_ n5_ n6_; clear hb hbox hg))
 have n0_ := Aside0.mk (blk_drew BK216.out)
 have n1_ := Aside0.mk (blk_drew BK217.out)
 have n2_ := Aside0.mk (below_drew1 HB.out)
 clear BK216
 clear BK217
 clear HB
 have BK216 := n0_
 have BK217 := n1_
 have HB := n2_
 clear n0_ n1_ n2_
 refine start_ (n := 6) (S := fun w' => w'.cell? ⟨gb216, 0, none⟩ = some (.int .i64 a0_0) ∧ w'.cell? ⟨gb216, 1, none⟩ = some (.int .i64 a0_1) ∧ w'.cell? ⟨gb216, 2, none⟩ = some (.int .i64 a0_2) ∧ w'.cell? ⟨gb216, 3, none⟩ = some (.int .i64 a0_3) ∧ w'.cell? ⟨gb216, 4, none⟩ = some (.int .i64 a0_4) ∧ w'.cell? ⟨gb216, 5, none⟩ = some (.string a0_5) ∧ w'.cell? ⟨gb217, 0, none⟩ = some (.int .i64 a1_0) ∧ w'.cell? ⟨gb217, 1, none⟩ = some (.int .i64 a1_1) ∧ w'.cell? ⟨gb217, 2, none⟩ = some (.int .i64 a1_2) ∧ w'.cell? ⟨gb217, 3, none⟩ = some (.int .i64 a1_3) ∧ w'.cell? ⟨gb217, 4, none⟩ = some (.int .i64 a1_4) ∧ w'.cell? ⟨gb217, 5, none⟩ = some (.string a1_5)) (ds := []) #[false, false, false, false, false, false] (by kernel_rfl) rfl (by kernel_rfl) ⟨(blk_cell BK216.out 0).trans rfl, (blk_cell BK216.out 1).trans rfl, (blk_cell BK216.out 2).trans rfl, (blk_cell BK216.out 3).trans rfl, (blk_cell BK216.out 4).trans rfl, (blk_cell BK216.out 5).trans rfl, (blk_cell BK217.out 0).trans rfl, (blk_cell BK217.out 1).trans rfl, (blk_cell BK217.out 2).trans rfl, (blk_cell BK217.out 3).trans rfl, (blk_cell BK217.out 4).trans rfl, (blk_cell BK217.out 5).trans rfl⟩ (fun hHeld => ?_)
 generalize w7.drew = w8 at BK216 BK217 HB hHeld ⊢
 refine take_ (i := 0) (N := some 8) (v := ?_) (a' := ?_) #[true, false, false, false, false, false] rfl rfl (by kernel_rfl) (fun _ _ _ h => h) (Or.inl ⟨by rfl, ?_⟩) hHeld ?_ ?_
 rotate_left
 ·rintro w' ⟨s0, s1, s2, s3, s4, s5, s6, s7, s8, s9, s10, s11⟩
  go_simp
  with_reducible rfl
 rotate_left
 ·simp only [Act.put, List.setIfInBounds_toArray, List.set_cons_zero, List.set_cons_succ, i64_w, i32_w]
  rfl
 refine take_ (i := 2) (N := some 10) (v := ?_) (a' := ?_) #[true, false, true, false, false, false] rfl rfl (by kernel_rfl) (fun _ _ _ h => h) (Or.inl ⟨by rfl, ?_⟩) hHeld ?_ ?_
 rotate_left
 ·rintro w' ⟨s0, s1, s2, s3, s4, s5, s6, s7, s8, s9, s10, s11⟩
  go_simp
  with_reducible rfl
 rotate_left
 ·simp only [Act.put, List.setIfInBounds_toArray, List.set_cons_zero, List.set_cons_succ, i64_w, i32_w]
  rfl
 refine one_ (i := 1) (N := some 9) #[true, true, true, false, false, false] rfl rfl (by kernel_rfl) (by decide) (fun K hK => ?_)
 refine goes_ Try.func71 (by kernel_rfl) rfl #[.agg #[.int .i64 a0_0, .int .i64 a0_1, .int .i64 a0_2, .int .i64 a0_3, .int .i64 a0_4, .string a0_5]] (by rfl) rfl rfl (by (try simp only [List.map_toArray, List.map_cons, List.map_nil]); first | done | rfl | (simp only [List.length_drop, List.length_take]; rfl)) ?_
 with_reducible refine (r3_Writes.calls a0_0 a0_1 a0_2 a0_3 a0_4 a0_5 t218 _ A3.out).mono ?_
 rintro e w9 ⟨rfl, hb⟩
 refine ⟨_, rfl, ?_⟩
 have n0_ := Aside0.mk (blk_below (g := gb216) (o := .cells #[.int .i64 a0_0, .int .i64 a0_1, .int .i64 a0_2, .int .i64 a0_3, .int .i64 a0_4, .string a0_5] 24 (0, 0)) (by (with_reducible repeat (first | refine blk_drewN ?_ _ | refine blk_drew ?_ | refine blk_alloc ?_ _)); exact BK216.out) hb)
 have n1_ := Aside0.mk (blk_below (g := gb217) (o := .cells #[.int .i64 a1_0, .int .i64 a1_1, .int .i64 a1_2, .int .i64 a1_3, .int .i64 a1_4, .string a1_5] 24 (0, 0)) (by (with_reducible repeat (first | refine blk_drewN ?_ _ | refine blk_drew ?_ | refine blk_alloc ?_ _)); exact BK217.out) hb)
 have n2_ := Aside0.mk (below_step (by repeat (first | (with_reducible first | exact HB.out | apply below_alloc | apply pw_below_drewN | apply below_drew1 | refine below_set ?_ GE216.out | refine below_set ?_ GE217.out) | exact HB.out)) hb)
 clear BK216
 clear BK217
 clear HB
 have BK216 := n0_
 have BK217 := n1_
 have HB := n2_
 clear n0_ n1_ n2_
 (try clear hb)
 (try clear hb2)
 (try clear hk)
 (try clear hi)
 refine hK.out _ _ ⟨(blk_cell BK216.out 0).trans rfl, (blk_cell BK216.out 1).trans rfl, (blk_cell BK216.out 2).trans rfl, (blk_cell BK216.out 3).trans rfl, (blk_cell BK216.out 4).trans rfl, (blk_cell BK216.out 5).trans rfl, (blk_cell BK217.out 0).trans rfl, (blk_cell BK217.out 1).trans rfl, (blk_cell BK217.out 2).trans rfl, (blk_cell BK217.out 3).trans rfl, (blk_cell BK217.out 4).trans rfl, (blk_cell BK217.out 5).trans rfl⟩ (fun hHeld => ?_)
 clear hK K
 refine norm_ (a' := ?_) ?_ ?_
 rotate_left
 ·show Act.put _ (some 9) _ = _
  simp only [Act.put, List.setIfInBounds_toArray, List.set_cons_zero, List.set_cons_succ, i64_w, i32_w]
  rfl
 refine one_ (i := 3) (N := some 11) #[true, true, true, true, false, false] rfl rfl (by kernel_rfl) (by decide) (fun K hK => ?_)
 refine goes_ Try.func71 (by kernel_rfl) rfl #[.agg #[.int .i64 a1_0, .int .i64 a1_1, .int .i64 a1_2, .int .i64 a1_3, .int .i64 a1_4, .string a1_5]] (by rfl) rfl rfl (by (try simp only [List.map_toArray, List.map_cons, List.map_nil]); first | done | rfl | (simp only [List.length_drop, List.length_take]; rfl)) ?_
 with_reducible refine (r3_Writes.calls a1_0 a1_1 a1_2 a1_3 a1_4 a1_5 t219 _ A4.out).mono ?_
 rintro e w10 ⟨rfl, hb⟩
 refine ⟨_, rfl, ?_⟩
 have n0_ := Aside0.mk (blk_below (g := gb216) (o := .cells #[.int .i64 a0_0, .int .i64 a0_1, .int .i64 a0_2, .int .i64 a0_3, .int .i64 a0_4, .string a0_5] 24 (0, 0)) (by (with_reducible repeat (first | refine blk_drewN ?_ _ | refine blk_drew ?_ | refine blk_alloc ?_ _)); exact BK216.out) hb)
 have n1_ := Aside0.mk (blk_below (g := gb217) (o := .cells #[.int .i64 a1_0, .int .i64 a1_1, .int .i64 a1_2, .int .i64 a1_3, .int .i64 a1_4, .string a1_5] 24 (0, 0)) (by (with_reducible repeat (first | refine blk_drewN ?_ _ | refine blk_drew ?_ | refine blk_alloc ?_ _)); exact BK217.out) hb)
 have n2_ := Aside0.mk (below_step (by repeat (first | (with_reducible first | exact HB.out | apply below_alloc | apply pw_below_drewN | apply below_drew1 | refine below_set ?_ GE216.out | refine below_set ?_ GE217.out) | exact HB.out)) hb)
 clear BK216
 clear BK217
 clear HB
 have BK216 := n0_
 have BK217 := n1_
 have HB := n2_
 clear n0_ n1_ n2_
 (try clear hb)
 (try clear hb2)
 (try clear hk)
 (try clear hi)
 refine hK.out _ _ ⟨(blk_cell BK216.out 0).trans rfl, (blk_cell BK216.out 1).trans rfl, (blk_cell BK216.out 2).trans rfl, (blk_cell BK216.out 3).trans rfl, (blk_cell BK216.out 4).trans rfl, (blk_cell BK216.out 5).trans rfl, (blk_cell BK217.out 0).trans rfl, (blk_cell BK217.out 1).trans rfl, (blk_cell BK217.out 2).trans rfl, (blk_cell BK217.out 3).trans rfl, (blk_cell BK217.out 4).trans rfl, (blk_cell BK217.out 5).trans rfl⟩ (fun hHeld => ?_)
 clear hK K
 refine norm_ (a' := ?_) ?_ ?_
 rotate_left
 ·show Act.put _ (some 11) _ = _
  simp only [Act.put, List.setIfInBounds_toArray, List.set_cons_zero, List.set_cons_succ, i64_w, i32_w]
  rfl
 refine pure_ (i := 4) (N := some 6) (v := ?_) (a' := ?_) #[true, true, true, true, true, false] rfl rfl (by kernel_rfl) (fun _ _ _ h => h) (Or.inl ⟨by rfl, ?_⟩) ?_ ?_
 rotate_left
 ·intro w'
  go_simp
  with_reducible rfl
 rotate_left
 ·simp only [Act.put, List.setIfInBounds_toArray, List.set_cons_zero, List.set_cons_succ, i64_w, i32_w]
  rfl
 refine pure_ (i := 5) (N := some 7) (v := ?_) (a' := ?_) #[true, true, true, true, true, true] rfl rfl (by kernel_rfl) (fun _ _ _ h => h) (Or.inl ⟨by rfl, ?_⟩) ?_ ?_
 rotate_left
 ·intro w'
  go_simp
  with_reducible rfl
 rotate_left
 ·simp only [Act.put, List.setIfInBounds_toArray, List.set_cons_zero, List.set_cons_succ, i64_w, i32_w]
  rfl
 refine done_ (by kernel_rfl) ?_
 go_upto_region 3 with (fail)
 go_cut [20] (fun v20 wc => ∃ (kq : Nat) (x20_4 : Bool), v20 = .bool x20_4 ∧ Aside0 (r13_dist.j0 kq (-1) t218 t219 x20_4 a0_0 a0_1 a0_2 a0_3 a0_4 a0_5 a1_0 a1_1 a1_2 a1_3 a1_4 a1_5 = some r) ∧ Aside0 (kq ≤ k) ∧ Aside0 (wc.heap[gb216]? = some (.cells #[.int .i64 a0_0, .int .i64 a0_1, .int .i64 a0_2, .int .i64 a0_3, .int .i64 a0_4, .string a0_5] 24 (0, 0))) ∧ Aside0 (wc.heap[gb217]? = some (.cells #[.int .i64 a1_0, .int .i64 a1_1, .int .i64 a1_2, .int .i64 a1_3, .int .i64 a1_4, .string a1_5] 24 (0, 0))) ∧ Aside0 (Below w.heap.size w wc))
 case first =>
  have H := HC5.out
  clear HC5
  by_cases c11 : t219 ≥ 0
  ·rw [if_pos c11] at H
   have c11b0 : decide (0 ≤ t219) = true := decide_eq_true c11
   clear c11
   (first | rw [c11b0] | (simp only [i64_w, i32_w]; rw [c11b0]) | skip)
   replace H := Option.bind_eq_some_iff.mp H
   obtain ⟨t220, A120, H⟩ := H
   replace H : ((r0_In.f k t220 t219).bind fun t223 => (r13_dist.j0 k (-1) t218 t219 (decide (t223 ≥ 0)) a0_0 a0_1 a0_2 a0_3 a0_4 a0_5 a1_0 a1_1 a1_2 a1_3 a1_4 a1_5)) = some r := H
   have A12 := Aside0.mk A120
   clear A120
   replace H := Option.bind_eq_some_iff.mp H
   obtain ⟨t223, A130, H⟩ := H
   replace H : (r13_dist.j0 k (-1) t218 t219 (decide (t223 ≥ 0)) a0_0 a0_1 a0_2 a0_3 a0_4 a0_5 a1_0 a1_1 a1_2 a1_3 a1_4 a1_5) = some r := H
   have A13 := Aside0.mk A130
   clear A130
   have H' := Aside0.mk H
   clear H
   have hnb14 := NB216_217.out
   have hnc14 := NB217_216.out
   have hcz15_0 : w10.cell? ⟨gb216, 0, none⟩ = some (.int .i64 a0_0) := (blk_cell BK216.out 0).trans rfl
   have hcz15_1 : w10.cell? ⟨gb216, 1, none⟩ = some (.int .i64 a0_1) := (blk_cell BK216.out 1).trans rfl
   have hcz15_2 : w10.cell? ⟨gb216, 2, none⟩ = some (.int .i64 a0_2) := (blk_cell BK216.out 2).trans rfl
   have hcz15_3 : w10.cell? ⟨gb216, 3, none⟩ = some (.int .i64 a0_3) := (blk_cell BK216.out 3).trans rfl
   have hcz15_4 : w10.cell? ⟨gb216, 4, none⟩ = some (.int .i64 a0_4) := (blk_cell BK216.out 4).trans rfl
   have hcz15_5 : w10.cell? ⟨gb216, 5, none⟩ = some (.string a0_5) := (blk_cell BK216.out 5).trans rfl
   have hfz15_0 := blk_frozen BK216.out 0
   have hfz15_1 := blk_frozen BK216.out 1
   have hfz15_2 := blk_frozen BK216.out 2
   have hfz15_3 := blk_frozen BK216.out 3
   have hfz15_4 := blk_frozen BK216.out 4
   have hfz15_5 := blk_frozen BK216.out 5
   go_wp2_with (first | (go_at_call 73; (with_reducible refine (r3_Reads.calls k a0_0 a0_1 a0_2 a0_3 a0_4 a0_5 t220 _ A12.out).mono ?_); rintro e w16 ⟨v221, rfl, ho0, hb⟩; have n0_ := Aside0.mk (Kd.R_lower ho0 (below_size (by repeat (first | (with_reducible first | exact HB.out | apply below_alloc | apply pw_below_drewN | apply below_drew1 | refine below_set ?_ GE216.out | refine below_set ?_ GE217.out) | exact HB.out)))); have n1_ := Aside0.mk (blk_below (g := gb216) (o := .cells #[.int .i64 a0_0, .int .i64 a0_1, .int .i64 a0_2, .int .i64 a0_3, .int .i64 a0_4, .string a0_5] 24 (0, 0)) (by (with_reducible repeat (first | refine blk_drewN ?_ _ | refine blk_drew ?_ | refine blk_alloc ?_ _)); exact BK216.out) hb); have n2_ := Aside0.mk (blk_below (g := gb217) (o := .cells #[.int .i64 a1_0, .int .i64 a1_1, .int .i64 a1_2, .int .i64 a1_3, .int .i64 a1_4, .string a1_5] 24 (0, 0)) (by (with_reducible repeat (first | refine blk_drewN ?_ _ | refine blk_drew ?_ | refine blk_alloc ?_ _)); exact BK217.out) hb); have n3_ := Aside0.mk (below_step (by repeat (first | (with_reducible first | exact HB.out | apply below_alloc | apply pw_below_drewN | apply below_drew1 | refine below_set ?_ GE216.out | refine below_set ?_ GE217.out) | exact HB.out)) hb); clear BK216; clear BK217; clear HB; have HO222 := n0_; have BK216 := n1_; have BK217 := n2_; have HB := n3_; clear n0_ n1_ n2_ n3_; (try clear ho0); obtain ⟨Ao17, co17, eo17⟩ := Kd.R_slice HO222.out; subst eo17) | (go_at_call 72; (with_reducible refine (r0_In.calls k _ _ t220 t219 t223 _ ?side1 ?side2 A13.out).mono ?_); (case side1 => repeat (first | exact (Kd.R_reads' HO222.out).2.2 | (with_reducible refine Kd.C_alloc ?_ _) | (with_reducible refine Kd.C_drewN ?_ _) | (with_reducible refine Kd.C_drew ?_))); (case side2 => exact (Kd.R_reads' HO222.out).2.1); rintro e w' ⟨rfl, ⟨nd, rfl⟩⟩))
   go_meet
   case rel => exact ⟨_, (decide (t223 ≥ 0)), (by first | rfl | (simp; done) | (simp [*]; done) | (simp [wrap64]; done) | (congr 1; rw [Bool.eq_iff_iff]; simp; done)), H', ⟨by first | omega | exact Nat.le_refl _⟩, ⟨by (with_reducible repeat (first | refine blk_drewN ?_ _ | refine blk_drew ?_ | refine blk_alloc ?_ _)); exact BK216.out⟩, ⟨by (with_reducible repeat (first | refine blk_drewN ?_ _ | refine blk_drew ?_ | refine blk_alloc ?_ _)); exact BK217.out⟩, ⟨by repeat (first | (with_reducible first | exact HB.out | apply below_alloc | apply pw_below_drewN | apply below_drew1 | refine below_set ?_ GE216.out | refine below_set ?_ GE217.out) | exact HB.out)⟩⟩
  ·rw [if_neg c11] at H
   have c11b0 : decide (0 ≤ t219) = false := decide_eq_false c11
   clear c11
   (first | rw [c11b0] | (simp only [i64_w, i32_w]; rw [c11b0]) | skip)
   have H' := Aside0.mk H
   clear H
   go_wp2
   go_meet
   case rel => exact ⟨_, (false), (by first | rfl | (simp; done) | (simp [*]; done) | (simp [wrap64]; done) | (congr 1; rw [Bool.eq_iff_iff]; simp; done)), H', ⟨by first | omega | exact Nat.le_refl _⟩, ⟨by (with_reducible repeat (first | refine blk_drewN ?_ _ | refine blk_drew ?_ | refine blk_alloc ?_ _)); exact BK216.out⟩, ⟨by (with_reducible repeat (first | refine blk_drewN ?_ _ | refine blk_drew ?_ | refine blk_alloc ?_ _)); exact BK217.out⟩, ⟨by repeat (first | (with_reducible first | exact HB.out | apply below_alloc | apply pw_below_drewN | apply below_drew1 | refine below_set ?_ GE216.out | refine below_set ?_ GE217.out) | exact HB.out)⟩⟩
 case rest =>
  clear HC5
  (try clear c1); (try clear p2); (try clear c5); (try clear p6); (try clear c7); (try clear c11); (try clear c11b0); (try clear c14); (try clear hcz15_0); (try clear hcz15_1); (try clear hcz15_2); (try clear hcz15_3); (try clear hcz15_4); (try clear hcz15_5); (try clear hfz15_0); (try clear hfz15_1); (try clear hfz15_2); (try clear hfz15_3); (try clear hfz15_4); (try clear hfz15_5)
  obtain ⟨kq, x20_4, rfl, HA, HJ4, BK216, BK217, HB⟩ := hcut
  cases kq with
  | zero => exact absurd HA.out (by simp [r13_dist.j0])
  | succ kj4 =>
   have H := HA.out
   clear HA
   simp only [r13_dist.j0] at H
   have HC18 := Aside0.mk H
   clear H
   go_upto_if 20 with (fail)
   go_cut [5] (fun v5 wc => ∃ (kq : Nat) (x5_17 : Int), v5 = .int .i64 x5_17 ∧ Aside0 (r13_dist.j1 kq x5_17 t218 t219 a0_0 a0_1 a0_2 a0_3 a0_4 a0_5 a1_0 a1_1 a1_2 a1_3 a1_4 a1_5 = some r) ∧ Aside0 (kq ≤ kj4) ∧ Aside0 (wc.heap[gb216]? = some (.cells #[.int .i64 a0_0, .int .i64 a0_1, .int .i64 a0_2, .int .i64 a0_3, .int .i64 a0_4, .string a0_5] 24 (0, 0))) ∧ Aside0 (wc.heap[gb217]? = some (.cells #[.int .i64 a1_0, .int .i64 a1_1, .int .i64 a1_2, .int .i64 a1_3, .int .i64 a1_4, .string a1_5] 24 (0, 0))) ∧ Aside0 (Below w.heap.size w wc))
   case first =>
    have H := HC18.out
    clear HC18
    by_cases c19 : x20_4 = true
    ·subst c19
     have H1 : (r13_dist.j1 kj4 0 t218 t219 a0_0 a0_1 a0_2 a0_3 a0_4 a0_5 a1_0 a1_1 a1_2 a1_3 a1_4 a1_5) = some r := by rw [if_pos rfl] at H; exact H
     clear H
     have H := H1
     clear H1
     have H' := Aside0.mk H
     clear H
     go_wp2
     go_meet
     case rel => exact ⟨_, (0), (by first | rfl | (simp; done) | (simp [*]; done) | (simp [wrap64]; done) | (congr 1; rw [Bool.eq_iff_iff]; simp; done)), H', ⟨by have := HJ4.out; first | omega | exact Nat.le_refl _⟩, ⟨by (with_reducible repeat (first | refine blk_drewN ?_ _ | refine blk_drew ?_ | refine blk_alloc ?_ _)); exact BK216.out⟩, ⟨by (with_reducible repeat (first | refine blk_drewN ?_ _ | refine blk_drew ?_ | refine blk_alloc ?_ _)); exact BK217.out⟩, ⟨by repeat (first | (with_reducible first | exact HB.out | apply below_alloc | apply pw_below_drewN | apply below_drew1 | refine below_set ?_ GE216.out | refine below_set ?_ GE217.out) | exact HB.out)⟩⟩
    ·replace c19 := Bool.eq_false_iff.mpr c19
     subst c19
     have H1 : (r13_dist.j1 kj4 (-1) t218 t219 a0_0 a0_1 a0_2 a0_3 a0_4 a0_5 a1_0 a1_1 a1_2 a1_3 a1_4 a1_5) = some r := by rw [if_neg (show ¬ (false = true) by decide)] at H; exact H
     clear H
     have H := H1
     clear H1
     have H' := Aside0.mk H
     clear H
     go_wp2
     go_meet
     case rel => exact ⟨_, ((-1)), (by first | rfl | (simp; done) | (simp [*]; done) | (simp [wrap64]; done) | (congr 1; rw [Bool.eq_iff_iff]; simp; done)), H', ⟨by have := HJ4.out; first | omega | exact Nat.le_refl _⟩, ⟨by (with_reducible repeat (first | refine blk_drewN ?_ _ | refine blk_drew ?_ | refine blk_alloc ?_ _)); exact BK216.out⟩, ⟨by (with_reducible repeat (first | refine blk_drewN ?_ _ | refine blk_drew ?_ | refine blk_alloc ?_ _)); exact BK217.out⟩, ⟨by repeat (first | (with_reducible first | exact HB.out | apply below_alloc | apply pw_below_drewN | apply below_drew1 | refine below_set ?_ GE216.out | refine below_set ?_ GE217.out) | exact HB.out)⟩⟩
   case rest =>
    clear HC18
    (try clear c1); (try clear p2); (try clear c5); (try clear p6); (try clear c7); (try clear c11); (try clear c11b0); (try clear c14); (try clear c19); (try clear hcz15_0); (try clear hcz15_1); (try clear hcz15_2); (try clear hcz15_3); (try clear hcz15_4); (try clear hcz15_5); (try clear hfz15_0); (try clear hfz15_1); (try clear hfz15_2); (try clear hfz15_3); (try clear hfz15_4); (try clear hfz15_5); (try clear p2); (try clear p6)
    obtain ⟨kq, x5_17, rfl, HA, HJ17, BK216, BK217, HB⟩ := hcut
    cases kq with
    | zero => exact absurd HA.out (by simp [r13_dist.j1])
    | succ kj17 =>
     have H := HA.out
     clear HA
     simp only [r13_dist.j1] at H
     have HC20 := Aside0.mk H
     clear H
     go_upto_region 5 with (fail)
     go_cut [28] (fun v28 wc => ∃ (kq : Nat) (x28_19 : Bool), v28 = .bool x28_19 ∧ Aside0 (r13_dist.j2 kq x5_17 t218 t219 x28_19 a0_0 a0_1 a0_2 a0_3 a0_4 a0_5 a1_0 a1_1 a1_2 a1_3 a1_4 a1_5 = some r) ∧ Aside0 (kq ≤ kj17) ∧ Aside0 (wc.heap[gb216]? = some (.cells #[.int .i64 a0_0, .int .i64 a0_1, .int .i64 a0_2, .int .i64 a0_3, .int .i64 a0_4, .string a0_5] 24 (0, 0))) ∧ Aside0 (wc.heap[gb217]? = some (.cells #[.int .i64 a1_0, .int .i64 a1_1, .int .i64 a1_2, .int .i64 a1_3, .int .i64 a1_4, .string a1_5] 24 (0, 0))) ∧ Aside0 (Below w.heap.size w wc))
     case first =>
      have H := HC20.out
      clear HC20
      replace H := Option.bind_eq_some_iff.mp H
      obtain ⟨t224, A210, H⟩ := H
      replace H : (if t224 = true then ((r3_Effect.f a1_0).bind fun t225 => (r13_dist.j2 kj17 x5_17 t218 t219 t225 a0_0 a0_1 a0_2 a0_3 a0_4 a0_5 a1_0 a1_1 a1_2 a1_3 a1_4 a1_5)) else (r13_dist.j2 kj17 x5_17 t218 t219 false a0_0 a0_1 a0_2 a0_3 a0_4 a0_5 a1_0 a1_1 a1_2 a1_3 a1_4 a1_5)) = some r := H
      have A21 := Aside0.mk A210
      clear A210
      by_cases c22 : t224 = true
      ·subst c22
       have H1 : ((r3_Effect.f a1_0).bind fun t225 => (r13_dist.j2 kj17 x5_17 t218 t219 t225 a0_0 a0_1 a0_2 a0_3 a0_4 a0_5 a1_0 a1_1 a1_2 a1_3 a1_4 a1_5)) = some r := by rw [if_pos rfl] at H; exact H
       clear H
       have H := H1
       clear H1
       replace H := Option.bind_eq_some_iff.mp H
       obtain ⟨t225, A230, H⟩ := H
       replace H : (r13_dist.j2 kj17 x5_17 t218 t219 t225 a0_0 a0_1 a0_2 a0_3 a0_4 a0_5 a1_0 a1_1 a1_2 a1_3 a1_4 a1_5) = some r := H
       have A23 := Aside0.mk A230
       clear A230
       have H' := Aside0.mk H
       clear H
       have hnb24 := NB216_217.out
       have hnc24 := NB217_216.out
       have hcz25_0 : wc.cell? ⟨gb216, 0, none⟩ = some (.int .i64 a0_0) := (blk_cell BK216.out 0).trans rfl
       have hcz25_1 : wc.cell? ⟨gb216, 1, none⟩ = some (.int .i64 a0_1) := (blk_cell BK216.out 1).trans rfl
       have hcz25_2 : wc.cell? ⟨gb216, 2, none⟩ = some (.int .i64 a0_2) := (blk_cell BK216.out 2).trans rfl
       have hcz25_3 : wc.cell? ⟨gb216, 3, none⟩ = some (.int .i64 a0_3) := (blk_cell BK216.out 3).trans rfl
       have hcz25_4 : wc.cell? ⟨gb216, 4, none⟩ = some (.int .i64 a0_4) := (blk_cell BK216.out 4).trans rfl
       have hcz25_5 : wc.cell? ⟨gb216, 5, none⟩ = some (.string a0_5) := (blk_cell BK216.out 5).trans rfl
       have hfz25_0 := blk_frozen BK216.out 0
       have hfz25_1 := blk_frozen BK216.out 1
       have hfz25_2 := blk_frozen BK216.out 2
       have hfz25_3 := blk_frozen BK216.out 3
       have hfz25_4 := blk_frozen BK216.out 4
       have hfz25_5 := blk_frozen BK216.out 5
       go_wp2_with (first | ((with_reducible refine gate_callee (f := 36) rfl ?_); refine goesL_ (some 23) rfl rfl Try.func36 (by kernel_rfl) rfl #[.int .i64 a0_0] rfl (by (try simp only [List.map_toArray, List.map_cons, List.map_nil]); first | done | rfl | (simp only [List.length_drop, List.length_take]; rfl)) ?_; (with_reducible refine (r3_Effect.calls a0_0 true _ A21.out).mono ?_); rintro e w' ⟨rfl, ⟨nd, rfl⟩⟩; refine ⟨_, rfl, ?_⟩; have hcz26_0 : wc.cell? ⟨gb217, 0, none⟩ = some (.int .i64 a1_0) := (blk_cell BK217.out 0).trans rfl; have hcz26_1 : wc.cell? ⟨gb217, 1, none⟩ = some (.int .i64 a1_1) := (blk_cell BK217.out 1).trans rfl; have hcz26_2 : wc.cell? ⟨gb217, 2, none⟩ = some (.int .i64 a1_2) := (blk_cell BK217.out 2).trans rfl; have hcz26_3 : wc.cell? ⟨gb217, 3, none⟩ = some (.int .i64 a1_3) := (blk_cell BK217.out 3).trans rfl; have hcz26_4 : wc.cell? ⟨gb217, 4, none⟩ = some (.int .i64 a1_4) := (blk_cell BK217.out 4).trans rfl; have hcz26_5 : wc.cell? ⟨gb217, 5, none⟩ = some (.string a1_5) := (blk_cell BK217.out 5).trans rfl; have hfz26_0 := blk_frozen BK217.out 0; have hfz26_1 := blk_frozen BK217.out 1; have hfz26_2 := blk_frozen BK217.out 2; have hfz26_3 := blk_frozen BK217.out 3; have hfz26_4 := blk_frozen BK217.out 4; have hfz26_5 := blk_frozen BK217.out 5) | (go_at_call 36; (with_reducible refine (r3_Effect.calls a1_0 t225 _ A23.out).mono ?_); rintro e w' ⟨rfl, ⟨nd, rfl⟩⟩))
       go_meet
       case rel => exact ⟨_, (t225), (by first | rfl | (simp; done) | (simp [*]; done) | (simp [wrap64]; done) | (congr 1; rw [Bool.eq_iff_iff]; simp; done)), H', ⟨by have := HJ4.out; have := HJ17.out; first | omega | exact Nat.le_refl _⟩, ⟨by (with_reducible repeat (first | refine blk_drewN ?_ _ | refine blk_drew ?_ | refine blk_alloc ?_ _)); exact BK216.out⟩, ⟨by (with_reducible repeat (first | refine blk_drewN ?_ _ | refine blk_drew ?_ | refine blk_alloc ?_ _)); exact BK217.out⟩, ⟨by repeat (first | (with_reducible first | exact HB.out | apply below_alloc | apply pw_below_drewN | apply below_drew1 | refine below_set ?_ GE216.out | refine below_set ?_ GE217.out) | exact HB.out)⟩⟩
      ·replace c22 := Bool.eq_false_iff.mpr c22
       subst c22
       have H1 : (r13_dist.j2 kj17 x5_17 t218 t219 false a0_0 a0_1 a0_2 a0_3 a0_4 a0_5 a1_0 a1_1 a1_2 a1_3 a1_4 a1_5) = some r := by rw [if_neg (show ¬ (false = true) by decide)] at H; exact H
       clear H
       have H := H1
       clear H1
       have H' := Aside0.mk H
       clear H
       have hnb27 := NB216_217.out
       have hnc27 := NB217_216.out
       have hcz28_0 : wc.cell? ⟨gb216, 0, none⟩ = some (.int .i64 a0_0) := (blk_cell BK216.out 0).trans rfl
       have hcz28_1 : wc.cell? ⟨gb216, 1, none⟩ = some (.int .i64 a0_1) := (blk_cell BK216.out 1).trans rfl
       have hcz28_2 : wc.cell? ⟨gb216, 2, none⟩ = some (.int .i64 a0_2) := (blk_cell BK216.out 2).trans rfl
       have hcz28_3 : wc.cell? ⟨gb216, 3, none⟩ = some (.int .i64 a0_3) := (blk_cell BK216.out 3).trans rfl
       have hcz28_4 : wc.cell? ⟨gb216, 4, none⟩ = some (.int .i64 a0_4) := (blk_cell BK216.out 4).trans rfl
       have hcz28_5 : wc.cell? ⟨gb216, 5, none⟩ = some (.string a0_5) := (blk_cell BK216.out 5).trans rfl
       have hfz28_0 := blk_frozen BK216.out 0
       have hfz28_1 := blk_frozen BK216.out 1
       have hfz28_2 := blk_frozen BK216.out 2
       have hfz28_3 := blk_frozen BK216.out 3
       have hfz28_4 := blk_frozen BK216.out 4
       have hfz28_5 := blk_frozen BK216.out 5
       go_wp2_with (first | ((with_reducible refine gate_callee (f := 36) rfl ?_); refine goesL_ (some 23) rfl rfl Try.func36 (by kernel_rfl) rfl #[.int .i64 a0_0] rfl (by (try simp only [List.map_toArray, List.map_cons, List.map_nil]); first | done | rfl | (simp only [List.length_drop, List.length_take]; rfl)) ?_; (with_reducible refine (r3_Effect.calls a0_0 false _ A21.out).mono ?_); rintro e w' ⟨rfl, ⟨nd, rfl⟩⟩; refine ⟨_, rfl, ?_⟩))
       go_meet
       case rel => exact ⟨_, (false), (by first | rfl | (simp; done) | (simp [*]; done) | (simp [wrap64]; done) | (congr 1; rw [Bool.eq_iff_iff]; simp; done)), H', ⟨by have := HJ4.out; have := HJ17.out; first | omega | exact Nat.le_refl _⟩, ⟨by (with_reducible repeat (first | refine blk_drewN ?_ _ | refine blk_drew ?_ | refine blk_alloc ?_ _)); exact BK216.out⟩, ⟨by (with_reducible repeat (first | refine blk_drewN ?_ _ | refine blk_drew ?_ | refine blk_alloc ?_ _)); exact BK217.out⟩, ⟨by repeat (first | (with_reducible first | exact HB.out | apply below_alloc | apply pw_below_drewN | apply below_drew1 | refine below_set ?_ GE216.out | refine below_set ?_ GE217.out) | exact HB.out)⟩⟩
     case rest =>
      clear HC20
      (try clear c1); (try clear c2); (try clear p2); (try clear c3); (try clear c5); (try clear p6); (try clear c7); (try clear c11); (try clear c11b0); (try clear c14); (try clear c19); (try clear c22); (try clear c24); (try clear c27); (try clear hcz15_0); (try clear hcz15_1); (try clear hcz15_2); (try clear hcz15_3); (try clear hcz15_4); (try clear hcz15_5); (try clear hcz25_0); (try clear hcz25_1); (try clear hcz25_2); (try clear hcz25_3); (try clear hcz25_4); (try clear hcz25_5); (try clear hcz26_0); (try clear hcz26_1); (try clear hcz26_2); (try clear hcz26_3); (try clear hcz26_4); (try clear hcz26_5); (try clear hcz28_0); (try clear hcz28_1); (try clear hcz28_2); (try clear hcz28_3); (try clear hcz28_4); (try clear hcz28_5); (try clear hfz15_0); (try clear hfz15_1); (try clear hfz15_2); (try clear hfz15_3); (try clear hfz15_4); (try clear hfz15_5); (try clear hfz25_0); (try clear hfz25_1); (try clear hfz25_2); (try clear hfz25_3); (try clear hfz25_4); (try clear hfz25_5); (try clear hfz26_0); (try clear hfz26_1); (try clear hfz26_2); (try clear hfz26_3); (try clear hfz26_4); (try clear hfz26_5); (try clear hfz28_0); (try clear hfz28_1); (try clear hfz28_2); (try clear hfz28_3); (try clear hfz28_4); (try clear hfz28_5); (try clear p2); (try clear p6)
      obtain ⟨kq, x28_19, rfl, HA, HJ19, BK216, BK217, HB⟩ := hcut
      cases kq with
      | zero => exact absurd HA.out (by simp [r13_dist.j2])
      | succ kj19 =>
       have H := HA.out
       clear HA
       simp only [r13_dist.j2] at H
       have HC29 := Aside0.mk H
       clear H
       go_upto_if 28 with (fail)
       go_cut [5] (fun v5 wc => ∃ (kq : Nat) (x5_28 : Int), v5 = .int .i64 x5_28 ∧ Aside0 (r13_dist.j3 kq x5_28 t218 t219 a0_0 a0_1 a0_2 a0_3 a0_4 a0_5 a1_0 a1_1 a1_2 a1_3 a1_4 a1_5 = some r) ∧ Aside0 (kq ≤ kj19) ∧ Aside0 (wc.heap[gb216]? = some (.cells #[.int .i64 a0_0, .int .i64 a0_1, .int .i64 a0_2, .int .i64 a0_3, .int .i64 a0_4, .string a0_5] 24 (0, 0))) ∧ Aside0 (wc.heap[gb217]? = some (.cells #[.int .i64 a1_0, .int .i64 a1_1, .int .i64 a1_2, .int .i64 a1_3, .int .i64 a1_4, .string a1_5] 24 (0, 0))) ∧ Aside0 (Below w.heap.size w wc))
       case first =>
        have H := HC29.out
        clear HC29
        by_cases c30 : x28_19 = true
        ·subst c30
         have H1 : (r13_dist.j3 kj19 1 t218 t219 a0_0 a0_1 a0_2 a0_3 a0_4 a0_5 a1_0 a1_1 a1_2 a1_3 a1_4 a1_5) = some r := by rw [if_pos rfl] at H; exact H
         clear H
         have H := H1
         clear H1
         have H' := Aside0.mk H
         clear H
         go_wp2
         go_meet
         case rel => exact ⟨_, (1), (by first | rfl | (simp; done) | (simp [*]; done) | (simp [wrap64]; done) | (congr 1; rw [Bool.eq_iff_iff]; simp; done)), H', ⟨by have := HJ4.out; have := HJ17.out; have := HJ19.out; first | omega | exact Nat.le_refl _⟩, ⟨by (with_reducible repeat (first | refine blk_drewN ?_ _ | refine blk_drew ?_ | refine blk_alloc ?_ _)); exact BK216.out⟩, ⟨by (with_reducible repeat (first | refine blk_drewN ?_ _ | refine blk_drew ?_ | refine blk_alloc ?_ _)); exact BK217.out⟩, ⟨by repeat (first | (with_reducible first | exact HB.out | apply below_alloc | apply pw_below_drewN | apply below_drew1 | refine below_set ?_ GE216.out | refine below_set ?_ GE217.out) | exact HB.out)⟩⟩
        ·replace c30 := Bool.eq_false_iff.mpr c30
         subst c30
         have H1 : (r13_dist.j3 kj19 x5_17 t218 t219 a0_0 a0_1 a0_2 a0_3 a0_4 a0_5 a1_0 a1_1 a1_2 a1_3 a1_4 a1_5) = some r := by rw [if_neg (show ¬ (false = true) by decide)] at H; exact H
         clear H
         have H := H1
         clear H1
         have H' := Aside0.mk H
         clear H
         go_wp2
         go_meet
         case rel => exact ⟨_, (x5_17), (by first | rfl | (simp; done) | (simp [*]; done) | (simp [wrap64]; done) | (congr 1; rw [Bool.eq_iff_iff]; simp; done)), H', ⟨by have := HJ4.out; have := HJ17.out; have := HJ19.out; first | omega | exact Nat.le_refl _⟩, ⟨by (with_reducible repeat (first | refine blk_drewN ?_ _ | refine blk_drew ?_ | refine blk_alloc ?_ _)); exact BK216.out⟩, ⟨by (with_reducible repeat (first | refine blk_drewN ?_ _ | refine blk_drew ?_ | refine blk_alloc ?_ _)); exact BK217.out⟩, ⟨by repeat (first | (with_reducible first | exact HB.out | apply below_alloc | apply pw_below_drewN | apply below_drew1 | refine below_set ?_ GE216.out | refine below_set ?_ GE217.out) | exact HB.out)⟩⟩
       case rest =>
        clear HC29
        (try clear c1); (try clear c2); (try clear p2); (try clear c3); (try clear c5); (try clear p6); (try clear c7); (try clear c11); (try clear c11b0); (try clear c14); (try clear c19); (try clear c22); (try clear c24); (try clear c27); (try clear c30); (try clear hcz15_0); (try clear hcz15_1); (try clear hcz15_2); (try clear hcz15_3); (try clear hcz15_4); (try clear hcz15_5); (try clear hcz25_0); (try clear hcz25_1); (try clear hcz25_2); (try clear hcz25_3); (try clear hcz25_4); (try clear hcz25_5); (try clear hcz26_0); (try clear hcz26_1); (try clear hcz26_2); (try clear hcz26_3); (try clear hcz26_4); (try clear hcz26_5); (try clear hcz28_0); (try clear hcz28_1); (try clear hcz28_2); (try clear hcz28_3); (try clear hcz28_4); (try clear hcz28_5); (try clear hfz15_0); (try clear hfz15_1); (try clear hfz15_2); (try clear hfz15_3); (try clear hfz15_4); (try clear hfz15_5); (try clear hfz25_0); (try clear hfz25_1); (try clear hfz25_2); (try clear hfz25_3); (try clear hfz25_4); (try clear hfz25_5); (try clear hfz26_0); (try clear hfz26_1); (try clear hfz26_2); (try clear hfz26_3); (try clear hfz26_4); (try clear hfz26_5); (try clear hfz28_0); (try clear hfz28_1); (try clear hfz28_2); (try clear hfz28_3); (try clear hfz28_4); (try clear hfz28_5); (try clear p2); (try clear p6)
        obtain ⟨kq, x5_28, rfl, HA, HJ28, BK216, BK217, HB⟩ := hcut
        cases kq with
        | zero => exact absurd HA.out (by simp [r13_dist.j3])
        | succ kj28 =>
         have H := HA.out
         clear HA
         simp only [r13_dist.j3] at H
         have HC31 := Aside0.mk H
         clear H
         go_upto_region 7 with (fail)
         go_cut [42] (fun v42 wc => ∃ (kq : Nat) (x42_30 : Bool), v42 = .bool x42_30 ∧ Aside0 (r13_dist.j4 kq x5_28 x42_30 a0_0 a0_1 a0_2 a0_3 a0_4 a0_5 = some r) ∧ Aside0 (kq ≤ kj28) ∧ Aside0 (wc.heap[gb216]? = some (.cells #[.int .i64 a0_0, .int .i64 a0_1, .int .i64 a0_2, .int .i64 a0_3, .int .i64 a0_4, .string a0_5] 24 (0, 0))) ∧ Aside0 (wc.heap[gb217]? = some (.cells #[.int .i64 a1_0, .int .i64 a1_1, .int .i64 a1_2, .int .i64 a1_3, .int .i64 a1_4, .string a1_5] 24 (0, 0))) ∧ Aside0 (Below w.heap.size w wc))
         case first =>
          have H := HC31.out
          clear HC31
          by_cases c32 : t218 ≥ 0
          ·rw [if_pos c32] at H
           have c32b0 : decide (0 ≤ t218) = true := decide_eq_true c32
           clear c32
           (first | rw [c32b0] | (simp only [i64_w, i32_w]; rw [c32b0]) | skip)
           by_cases c33 : t218 = t219
           ·rw [if_pos c33] at H
            have c33b0 : (t218 == t219) = true := beq_iff_eq.mpr c33
            have c33b1 : (t218 != t219) = false := bne_eq_false_iff_eq.mpr c33
            clear c33
            have H' := Aside0.mk H
            clear H
            go_wp2
            go_meet
            case rel => exact ⟨_, (true), (by first | rfl | (simp; done) | (simp [*]; done) | (simp [wrap64]; done) | (congr 1; rw [Bool.eq_iff_iff]; simp; done)), H', ⟨by have := HJ4.out; have := HJ17.out; have := HJ19.out; have := HJ28.out; first | omega | exact Nat.le_refl _⟩, ⟨by (with_reducible repeat (first | refine blk_drewN ?_ _ | refine blk_drew ?_ | refine blk_alloc ?_ _)); exact BK216.out⟩, ⟨by (with_reducible repeat (first | refine blk_drewN ?_ _ | refine blk_drew ?_ | refine blk_alloc ?_ _)); exact BK217.out⟩, ⟨by repeat (first | (with_reducible first | exact HB.out | apply below_alloc | apply pw_below_drewN | apply below_drew1 | refine below_set ?_ GE216.out | refine below_set ?_ GE217.out) | exact HB.out)⟩⟩
           ·rw [if_neg c33] at H
            have c33b0 : (t218 == t219) = false := beq_eq_false_iff_ne.mpr c33
            have c33b1 : (t218 != t219) = true := bne_iff_ne.mpr c33
            replace H := Option.bind_eq_some_iff.mp H
            obtain ⟨t226, A340, H⟩ := H
            replace H : ((r0_In.f kj28 t226 t218).bind fun t229 => (r13_dist.j4 kj28 x5_28 (decide (t229 ≥ 0)) a0_0 a0_1 a0_2 a0_3 a0_4 a0_5)) = some r := H
            have A34 := Aside0.mk A340
            clear A340
            replace H := Option.bind_eq_some_iff.mp H
            obtain ⟨t229, A350, H⟩ := H
            replace H : (r13_dist.j4 kj28 x5_28 (decide (t229 ≥ 0)) a0_0 a0_1 a0_2 a0_3 a0_4 a0_5) = some r := H
            have A35 := Aside0.mk A350
            clear A350
            have H' := Aside0.mk H
            clear H
            have hnb36 := NB217_216.out
            have hnc36 := NB216_217.out
            have hcz37_0 : wc.cell? ⟨gb217, 0, none⟩ = some (.int .i64 a1_0) := (blk_cell BK217.out 0).trans rfl
            have hcz37_1 : wc.cell? ⟨gb217, 1, none⟩ = some (.int .i64 a1_1) := (blk_cell BK217.out 1).trans rfl
            have hcz37_2 : wc.cell? ⟨gb217, 2, none⟩ = some (.int .i64 a1_2) := (blk_cell BK217.out 2).trans rfl
            have hcz37_3 : wc.cell? ⟨gb217, 3, none⟩ = some (.int .i64 a1_3) := (blk_cell BK217.out 3).trans rfl
            have hcz37_4 : wc.cell? ⟨gb217, 4, none⟩ = some (.int .i64 a1_4) := (blk_cell BK217.out 4).trans rfl
            have hcz37_5 : wc.cell? ⟨gb217, 5, none⟩ = some (.string a1_5) := (blk_cell BK217.out 5).trans rfl
            have hfz37_0 := blk_frozen BK217.out 0
            have hfz37_1 := blk_frozen BK217.out 1
            have hfz37_2 := blk_frozen BK217.out 2
            have hfz37_3 := blk_frozen BK217.out 3
            have hfz37_4 := blk_frozen BK217.out 4
            have hfz37_5 := blk_frozen BK217.out 5
            go_wp2_with (first | (go_at_call 73; (with_reducible refine (r3_Reads.calls kj28 a1_0 a1_1 a1_2 a1_3 a1_4 a1_5 t226 _ A34.out).mono ?_); rintro e w38 ⟨v227, rfl, ho0, hb⟩; have n0_ := Aside0.mk (Kd.R_lower ho0 (below_size (by repeat (first | (with_reducible first | exact HB.out | apply below_alloc | apply pw_below_drewN | apply below_drew1 | refine below_set ?_ GE216.out | refine below_set ?_ GE217.out) | exact HB.out)))); have n1_ := Aside0.mk (blk_below (g := gb216) (o := .cells #[.int .i64 a0_0, .int .i64 a0_1, .int .i64 a0_2, .int .i64 a0_3, .int .i64 a0_4, .string a0_5] 24 (0, 0)) (by (with_reducible repeat (first | refine blk_drewN ?_ _ | refine blk_drew ?_ | refine blk_alloc ?_ _)); exact BK216.out) hb); have n2_ := Aside0.mk (blk_below (g := gb217) (o := .cells #[.int .i64 a1_0, .int .i64 a1_1, .int .i64 a1_2, .int .i64 a1_3, .int .i64 a1_4, .string a1_5] 24 (0, 0)) (by (with_reducible repeat (first | refine blk_drewN ?_ _ | refine blk_drew ?_ | refine blk_alloc ?_ _)); exact BK217.out) hb); have n3_ := Aside0.mk (below_step (by repeat (first | (with_reducible first | exact HB.out | apply below_alloc | apply pw_below_drewN | apply below_drew1 | refine below_set ?_ GE216.out | refine below_set ?_ GE217.out) | exact HB.out)) hb); clear BK216; clear BK217; clear HB; have HO228 := n0_; have BK216 := n1_; have BK217 := n2_; have HB := n3_; clear n0_ n1_ n2_ n3_; (try clear ho0); obtain ⟨Ao39, co39, eo39⟩ := Kd.R_slice HO228.out; subst eo39) | (go_at_call 72; (with_reducible refine (r0_In.calls kj28 _ _ t226 t218 t229 _ ?side1 ?side2 A35.out).mono ?_); (case side1 => repeat (first | exact (Kd.R_reads' HO228.out).2.2 | (with_reducible refine Kd.C_alloc ?_ _) | (with_reducible refine Kd.C_drewN ?_ _) | (with_reducible refine Kd.C_drew ?_))); (case side2 => exact (Kd.R_reads' HO228.out).2.1); rintro e w' ⟨rfl, ⟨nd, rfl⟩⟩))
            go_meet
            case rel => exact ⟨_, (decide (t229 ≥ 0)), (by first | rfl | (simp; done) | (simp [*]; done) | (simp [wrap64]; done) | (congr 1; rw [Bool.eq_iff_iff]; simp; done)), H', ⟨by have := HJ4.out; have := HJ17.out; have := HJ19.out; have := HJ28.out; first | omega | exact Nat.le_refl _⟩, ⟨by (with_reducible repeat (first | refine blk_drewN ?_ _ | refine blk_drew ?_ | refine blk_alloc ?_ _)); exact BK216.out⟩, ⟨by (with_reducible repeat (first | refine blk_drewN ?_ _ | refine blk_drew ?_ | refine blk_alloc ?_ _)); exact BK217.out⟩, ⟨by repeat (first | (with_reducible first | exact HB.out | apply below_alloc | apply pw_below_drewN | apply below_drew1 | refine below_set ?_ GE216.out | refine below_set ?_ GE217.out) | exact HB.out)⟩⟩
          ·rw [if_neg c32] at H
           have c32b0 : decide (0 ≤ t218) = false := decide_eq_false c32
           clear c32
           (first | rw [c32b0] | (simp only [i64_w, i32_w]; rw [c32b0]) | skip)
           have H' := Aside0.mk H
           clear H
           go_wp2
           go_meet
           case rel => exact ⟨_, (false), (by first | rfl | (simp; done) | (simp [*]; done) | (simp [wrap64]; done) | (congr 1; rw [Bool.eq_iff_iff]; simp; done)), H', ⟨by have := HJ4.out; have := HJ17.out; have := HJ19.out; have := HJ28.out; first | omega | exact Nat.le_refl _⟩, ⟨by (with_reducible repeat (first | refine blk_drewN ?_ _ | refine blk_drew ?_ | refine blk_alloc ?_ _)); exact BK216.out⟩, ⟨by (with_reducible repeat (first | refine blk_drewN ?_ _ | refine blk_drew ?_ | refine blk_alloc ?_ _)); exact BK217.out⟩, ⟨by repeat (first | (with_reducible first | exact HB.out | apply below_alloc | apply pw_below_drewN | apply below_drew1 | refine below_set ?_ GE216.out | refine below_set ?_ GE217.out) | exact HB.out)⟩⟩
         case rest =>
          clear HC31
          (try clear c1); (try clear c2); (try clear p2); (try clear c3); (try clear c5); (try clear p6); (try clear c7); (try clear c11); (try clear c11b0); (try clear c14); (try clear c19); (try clear c22); (try clear c24); (try clear c27); (try clear c30); (try clear c32); (try clear c32b0); (try clear c33); (try clear c33b0); (try clear c33b1); (try clear c36); (try clear hcz15_0); (try clear hcz15_1); (try clear hcz15_2); (try clear hcz15_3); (try clear hcz15_4); (try clear hcz15_5); (try clear hcz25_0); (try clear hcz25_1); (try clear hcz25_2); (try clear hcz25_3); (try clear hcz25_4); (try clear hcz25_5); (try clear hcz26_0); (try clear hcz26_1); (try clear hcz26_2); (try clear hcz26_3); (try clear hcz26_4); (try clear hcz26_5); (try clear hcz28_0); (try clear hcz28_1); (try clear hcz28_2); (try clear hcz28_3); (try clear hcz28_4); (try clear hcz28_5); (try clear hcz37_0); (try clear hcz37_1); (try clear hcz37_2); (try clear hcz37_3); (try clear hcz37_4); (try clear hcz37_5); (try clear hfz15_0); (try clear hfz15_1); (try clear hfz15_2); (try clear hfz15_3); (try clear hfz15_4); (try clear hfz15_5); (try clear hfz25_0); (try clear hfz25_1); (try clear hfz25_2); (try clear hfz25_3); (try clear hfz25_4); (try clear hfz25_5); (try clear hfz26_0); (try clear hfz26_1); (try clear hfz26_2); (try clear hfz26_3); (try clear hfz26_4); (try clear hfz26_5); (try clear hfz28_0); (try clear hfz28_1); (try clear hfz28_2); (try clear hfz28_3); (try clear hfz28_4); (try clear hfz28_5); (try clear hfz37_0); (try clear hfz37_1); (try clear hfz37_2); (try clear hfz37_3); (try clear hfz37_4); (try clear hfz37_5); (try clear p2); (try clear p6)
          obtain ⟨kq, x42_30, rfl, HA, HJ30, BK216, BK217, HB⟩ := hcut
          cases kq with
          | zero => exact absurd HA.out (by simp [r13_dist.j4])
          | succ kj30 =>
           have H := HA.out
           clear HA
           simp only [r13_dist.j4] at H
           by_cases c40 : x42_30 = true
           ·subst c40
            have H1 : ((r3_Latency.f kj30 a0_0).bind fun t230 => (some (mx x5_28 t230))) = some r := by rw [if_pos rfl] at H; exact H
            clear H
            have H := H1
            clear H1
            replace H := Option.bind_eq_some_iff.mp H
            obtain ⟨t230, A410, H⟩ := H
            replace H : (some (mx x5_28 t230)) = some r := H
            have A41 := Aside0.mk A410
            clear A410
            obtain ⟨ji42, hji42⟩ : ∃ j_ : Int, (mx x5_28 t230) = j_ := ⟨_, rfl⟩
            replace H : (some ji42) = some r := by first | (rw [hji42] at H; exact H) | (simp only [hji42] at H ⊢; exact H)
            (try rw [hji42] at A41)
            have hji42_ : (if x5_28 < t230 then t230 else x5_28) = ji42 := hji42
            obtain rfl := Option.some.inj H
            have hnb43 := NB216_217.out
            have hnc43 := NB217_216.out
            have hcz44_0 : wc.cell? ⟨gb216, 0, none⟩ = some (.int .i64 a0_0) := (blk_cell BK216.out 0).trans rfl
            have hcz44_1 : wc.cell? ⟨gb216, 1, none⟩ = some (.int .i64 a0_1) := (blk_cell BK216.out 1).trans rfl
            have hcz44_2 : wc.cell? ⟨gb216, 2, none⟩ = some (.int .i64 a0_2) := (blk_cell BK216.out 2).trans rfl
            have hcz44_3 : wc.cell? ⟨gb216, 3, none⟩ = some (.int .i64 a0_3) := (blk_cell BK216.out 3).trans rfl
            have hcz44_4 : wc.cell? ⟨gb216, 4, none⟩ = some (.int .i64 a0_4) := (blk_cell BK216.out 4).trans rfl
            have hcz44_5 : wc.cell? ⟨gb216, 5, none⟩ = some (.string a0_5) := (blk_cell BK216.out 5).trans rfl
            have hfz44_0 := blk_frozen BK216.out 0
            have hfz44_1 := blk_frozen BK216.out 1
            have hfz44_2 := blk_frozen BK216.out 2
            have hfz44_3 := blk_frozen BK216.out 3
            have hfz44_4 := blk_frozen BK216.out 4
            have hfz44_5 := blk_frozen BK216.out 5
            go_wp2_with (first | ((with_reducible refine gate_callee (f := 27) rfl ?_); refine goesL_ (some 46) rfl rfl Try.func27 (by kernel_rfl) rfl #[.int .i64 a0_0] rfl (by (try simp only [List.map_toArray, List.map_cons, List.map_nil]); first | done | rfl | (simp only [List.length_drop, List.length_take]; rfl)) ?_; (with_reducible refine (r3_Latency.calls kj30 a0_0 t230 _ A41.out).mono ?_); rintro e w' ⟨rfl, ⟨nd, rfl⟩⟩; refine ⟨_, rfl, ?_⟩))
            go_ret
            exact ⟨by first | rfl | (simp [errW_none, errW_some] <;> rfl) | (simp only [← hji42]; first | rfl | (simp [errW_none, errW_some] <;> rfl)) | (simp [*, errW_none, errW_some] <;> rfl), by repeat (first | (with_reducible first | exact HB.out | apply below_alloc | apply pw_below_drewN | apply below_drew1 | refine below_set ?_ GE216.out | refine below_set ?_ GE217.out) | exact HB.out)⟩
           ·replace c40 := Bool.eq_false_iff.mpr c40
            subst c40
            have H1 : (some x5_28) = some r := by rw [if_neg (show ¬ (false = true) by decide)] at H; exact H
            clear H
            have H := H1
            clear H1
            obtain rfl := Option.some.inj H
            go_wp2
            go_ret
            exact ⟨by first | rfl | (simp [errW_none, errW_some] <;> rfl) | (simp [*, errW_none, errW_some] <;> rfl), by repeat (first | (with_reducible first | exact HB.out | apply below_alloc | apply pw_below_drewN | apply below_drew1 | refine below_set ?_ GE216.out | refine below_set ?_ GE217.out) | exact HB.out)⟩
end Go.Proofs.Ytibfkkjkahpobaa.PDag
