-- the texts that this claim needs, out of this session's and its print's (wip/shrink.py)
import Derived.Test.YtibfkkjkahpobaaPDagx0S
import Derived.Test.YtibfkkjkahpobaaPDagx3S
import Derived.Test.YtibfkkjkahpobaaPDagx15S
import Derived.Test.YtibfkkjkahpobaaPDagx16S
namespace Go.Proofs.Ytibfkkjkahpobaa.PDag
open Go.RowKit Go.Proofs.YtibfkkjkahpobaaW.PrintWords Go.Proofs.YtibfkkjkahpobaaW.PrintLast Go.Proofs.YtibfkkjkahpobaaW.PrintMore
attribute [local go_sem] max2_int min2_int max_two min_two max_three min_three max_four min_four   -- for this text's walks alone
set_option linter.unusedVariables false
set_option linter.unusedSimpArgs false
def r3_Ins.j0 : Nat → Int → Bool → Int → Int → Int → Int → Int → ByteArray → Option (Bool)
 | 0, _, _, _, _, _, _, _, _ => none
 | k + 1, x3, x32, x316a, x316b, x316c, x316d, x316e, x316f => if x32 = true then (some false) else (if x316f.toList = ([] : List UInt8) then ((r3_Target.f x3).bind fun t328 => (if t328 = true then ((r0_Num.f x316e 1023).bind fun t329 => (some t329)) else ((r3_Bits.f k x3).bind fun t330 => (if t330 > 0 then ((r3_Bits.f k x3).bind fun t331 => ((r1_Fits.f x316e t330).bind fun t332 => (some t332))) else (some (x316e == 0)))))) else ((r3_Name.f k x316f).bind fun t324 => (if t324 = true then (if x316a = 23 then ((r1_Fits.f x316e 18).bind fun t325 => (if t325 = true then (some true) else ((r3_Target.f x3).bind fun t326 => (if t326 = true then (some (x316e == 0)) else (some false))))) else ((r3_Target.f x3).bind fun t327 => (if t327 = true then (some (x316e == 0)) else (some false)))) else (some false))))
def r3_Ins.f (k : Nat) (a0_0 : Int) (a0_1 : Int) (a0_2 : Int) (a0_3 : Int) (a0_4 : Int) (a0_5 : ByteArray) : Option (Bool) := (r3_Valid.f a0_0).bind fun t316 => (if t316 = true then ((r3_Form.f a0_0).bind fun t317 => ((r3_HasD.f t317).bind fun t318 => ((r3_reg.f a0_1 t318).bind fun t319 => (if t319 = true then ((r3_HasA.f t317).bind fun t320 => ((r3_reg.f a0_2 t320).bind fun t321 => (if t321 = true then ((r3_HasB.f t317).bind fun t322 => ((r3_reg.f a0_3 t322).bind fun t323 => (r3_Ins.j0 k t317 (!t323) a0_0 a0_1 a0_2 a0_3 a0_4 a0_5))) else (r3_Ins.j0 k t317 true a0_0 a0_1 a0_2 a0_3 a0_4 a0_5)))) else (r3_Ins.j0 k t317 true a0_0 a0_1 a0_2 a0_3 a0_4 a0_5))))) else (some false))
set_option maxHeartbeats 8000000 in
set_option maxRecDepth 100000 in
theorem r3_Ins.calls (k : Nat) (a0_0 : Int) (a0_1 : Int) (a0_2 : Int) (a0_3 : Int) (a0_4 : Int) (a0_5 : ByteArray) (r : Bool) (w : World) (h : r3_Ins.f k a0_0 a0_1 a0_2 a0_3 a0_4 a0_5 = some r) :
  Calls Try.prog 39 #[.agg #[.int .i64 a0_0, .int .i64 a0_1, .int .i64 a0_2, .int .i64 a0_3, .int .i64 a0_4, .string a0_5]] w fun e w' => e = .returned (.bool r) ∧ Below w.heap.size w w' := by
 have hu24 := Try.underlying24
 have HB := Aside0.mk (Below.refl w.heap.size w)
 have H : ((r3_Valid.f a0_0).bind fun t316 => (if t316 = true then ((r3_Form.f a0_0).bind fun t317 => ((r3_HasD.f t317).bind fun t318 => ((r3_reg.f a0_1 t318).bind fun t319 => (if t319 = true then ((r3_HasA.f t317).bind fun t320 => ((r3_reg.f a0_2 t320).bind fun t321 => (if t321 = true then ((r3_HasB.f t317).bind fun t322 => ((r3_reg.f a0_3 t322).bind fun t323 => (r3_Ins.j0 k t317 (!t323) a0_0 a0_1 a0_2 a0_3 a0_4 a0_5))) else (r3_Ins.j0 k t317 true a0_0 a0_1 a0_2 a0_3 a0_4 a0_5)))) else (r3_Ins.j0 k t317 true a0_0 a0_1 a0_2 a0_3 a0_4 a0_5))))) else (some false))) = some r := h
 clear h
 replace H := Option.bind_eq_some_iff.mp H
 obtain ⟨t316, A20, H⟩ := H
 replace H : (if t316 = true then ((r3_Form.f a0_0).bind fun t317 => ((r3_HasD.f t317).bind fun t318 => ((r3_reg.f a0_1 t318).bind fun t319 => (if t319 = true then ((r3_HasA.f t317).bind fun t320 => ((r3_reg.f a0_2 t320).bind fun t321 => (if t321 = true then ((r3_HasB.f t317).bind fun t322 => ((r3_reg.f a0_3 t322).bind fun t323 => (r3_Ins.j0 k t317 (!t323) a0_0 a0_1 a0_2 a0_3 a0_4 a0_5))) else (r3_Ins.j0 k t317 true a0_0 a0_1 a0_2 a0_3 a0_4 a0_5)))) else (r3_Ins.j0 k t317 true a0_0 a0_1 a0_2 a0_3 a0_4 a0_5))))) else (some false)) = some r := H
 have A2 := Aside0.mk A20
 clear A20
 by_cases c3 : t316 = true
 ·subst c3
  have H1 : ((r3_Form.f a0_0).bind fun t317 => ((r3_HasD.f t317).bind fun t318 => ((r3_reg.f a0_1 t318).bind fun t319 => (if t319 = true then ((r3_HasA.f t317).bind fun t320 => ((r3_reg.f a0_2 t320).bind fun t321 => (if t321 = true then ((r3_HasB.f t317).bind fun t322 => ((r3_reg.f a0_3 t322).bind fun t323 => (r3_Ins.j0 k t317 (!t323) a0_0 a0_1 a0_2 a0_3 a0_4 a0_5))) else (r3_Ins.j0 k t317 true a0_0 a0_1 a0_2 a0_3 a0_4 a0_5)))) else (r3_Ins.j0 k t317 true a0_0 a0_1 a0_2 a0_3 a0_4 a0_5))))) = some r := by rw [if_pos rfl] at H; exact H
  clear H
  have H := H1
  clear H1
  replace H := Option.bind_eq_some_iff.mp H
  obtain ⟨t317, A40, H⟩ := H
  replace H : ((r3_HasD.f t317).bind fun t318 => ((r3_reg.f a0_1 t318).bind fun t319 => (if t319 = true then ((r3_HasA.f t317).bind fun t320 => ((r3_reg.f a0_2 t320).bind fun t321 => (if t321 = true then ((r3_HasB.f t317).bind fun t322 => ((r3_reg.f a0_3 t322).bind fun t323 => (r3_Ins.j0 k t317 (!t323) a0_0 a0_1 a0_2 a0_3 a0_4 a0_5))) else (r3_Ins.j0 k t317 true a0_0 a0_1 a0_2 a0_3 a0_4 a0_5)))) else (r3_Ins.j0 k t317 true a0_0 a0_1 a0_2 a0_3 a0_4 a0_5)))) = some r := H
  have A4 := Aside0.mk A40
  clear A40
  have HC5 := Aside0.mk H
  clear H
  go_enter Try.func39, Try.ntmps39
  go_upto_region 4 with (first | ((with_reducible refine gate_dst (N := 1) rfl ?_); refine box_event ?hg (N := 1) ?hd (cs := #[.int .i64 a0_0, .int .i64 a0_1, .int .i64 a0_2, .int .i64 a0_3, .int .i64 a0_4, .string a0_5]) (t := 24) ?hr ?_; (case hd => rfl); (case hg => rfl); (case hr => first | (go_simp; done) | (go_simp; rfl)); intro gb315 hg w6 hbox hb; have n0_ := Aside0.mk (below_step (by repeat (first | (with_reducible first | exact HB.out | apply below_alloc | apply pw_below_drewN | apply below_drew1) | exact HB.out)) hb); have n1_ := Aside0.mk (hbox); have n2_ := Aside0.mk ((by rw [hg]; exact (below_size (by repeat (first | (with_reducible first | exact HB.out | apply below_alloc | apply pw_below_drewN | apply below_drew1) | exact HB.out))) : w.heap.size ≤ gb315)); have n3_ := Aside0.mk ((by rw [hg]; exact (below_size (by repeat (first | (with_reducible first | exact HB.out | apply below_alloc | apply pw_below_drewN | apply below_drew1) | exact HB.out))) : w.heap.size ≤ gb315)); clear HB; have HB := n0_; have BK315 := n1_; have GW315 := n2_; have GE315 := n3_; clear n0_ n1_ n2_ n3_; clear hb hbox hg; have hcz7_0 : w6.cell? ⟨gb315, 0, none⟩ = some (.int .i64 a0_0) := (blk_cell BK315.out 0).trans rfl; have hcz7_1 : w6.cell? ⟨gb315, 1, none⟩ = some (.int .i64 a0_1) := (blk_cell BK315.out 1).trans rfl; have hcz7_2 : w6.cell? ⟨gb315, 2, none⟩ = some (.int .i64 a0_2) := (blk_cell BK315.out 2).trans rfl; have hcz7_3 : w6.cell? ⟨gb315, 3, none⟩ = some (.int .i64 a0_3) := (blk_cell BK315.out 3).trans rfl; have hcz7_4 : w6.cell? ⟨gb315, 4, none⟩ = some (.int .i64 a0_4) := (blk_cell BK315.out 4).trans rfl; have hcz7_5 : w6.cell? ⟨gb315, 5, none⟩ = some (.string a0_5) := (blk_cell BK315.out 5).trans rfl; have hfz7_0 := blk_frozen BK315.out 0; have hfz7_1 := blk_frozen BK315.out 1; have hfz7_2 := blk_frozen BK315.out 2; have hfz7_3 := blk_frozen BK315.out 3; have hfz7_4 := blk_frozen BK315.out 4; have hfz7_5 := blk_frozen BK315.out 5) | (go_at_call 66; (with_reducible refine (r3_Valid.calls a0_0 true _ A2.out).mono ?_); rintro e w' ⟨rfl, ⟨nd, rfl⟩⟩; (try first | exact ⟨rfl, _, World.drewN_drewN _ _ _⟩ | exact ⟨rfl, _, Eq.trans (World.drewN_drewN _ _ _) (congrArg (World.drewN _) (Nat.add_assoc _ _ _))⟩)) | (go_at_call 15; (with_reducible refine (r3_Form.calls a0_0 t317 _ A4.out).mono ?_); rintro e w8 ⟨rfl, hb⟩; have n0_ := Aside0.mk (blk_below (g := gb315) (o := .cells #[.int .i64 a0_0, .int .i64 a0_1, .int .i64 a0_2, .int .i64 a0_3, .int .i64 a0_4, .string a0_5] 24 (0, 0)) (by (with_reducible repeat (first | refine blk_drewN ?_ _ | refine blk_drew ?_ | refine blk_alloc ?_ _)); exact BK315.out) hb); have n1_ := Aside0.mk (below_step (by repeat (first | (with_reducible first | exact HB.out | apply below_alloc | apply pw_below_drewN | apply below_drew1 | refine below_set ?_ GE315.out) | exact HB.out)) hb); clear BK315; clear HB; have BK315 := n0_; have HB := n1_; clear n0_ n1_))
  repeat (go_quiet (first | ((with_reducible refine gate_dst (N := 1) rfl ?_); refine box_event ?hg (N := 1) ?hd (cs := #[.int .i64 a0_0, .int .i64 a0_1, .int .i64 a0_2, .int .i64 a0_3, .int .i64 a0_4, .string a0_5]) (t := 24) ?hr ?_; (case hd => rfl); (case hg => rfl); (case hr => first | (go_simp; done) | (go_simp; rfl)); intro gb315 hg w6 hbox hb; have n0_ := Aside0.mk (below_step (by repeat (first | (with_reducible first | exact HB.out | apply below_alloc | apply pw_below_drewN | apply below_drew1) | exact HB.out)) hb); have n1_ := Aside0.mk (hbox); have n2_ := Aside0.mk ((by rw [hg]; exact (below_size (by repeat (first | (with_reducible first | exact HB.out | apply below_alloc | apply pw_below_drewN | apply below_drew1) | exact HB.out))) : w.heap.size ≤ gb315)); have n3_ := Aside0.mk ((by rw [hg]; exact (below_size (by repeat (first | (with_reducible first | exact HB.out | apply below_alloc | apply pw_below_drewN | apply below_drew1) | exact HB.out))) : w.heap.size ≤ gb315)); clear HB; have HB := n0_; have BK315 := n1_; have GW315 := n2_; have GE315 := n3_; clear n0_ n1_ n2_ n3_; clear hb hbox hg; have hcz7_0 : w6.cell? ⟨gb315, 0, none⟩ = some (.int .i64 a0_0) := (blk_cell BK315.out 0).trans rfl; have hcz7_1 : w6.cell? ⟨gb315, 1, none⟩ = some (.int .i64 a0_1) := (blk_cell BK315.out 1).trans rfl; have hcz7_2 : w6.cell? ⟨gb315, 2, none⟩ = some (.int .i64 a0_2) := (blk_cell BK315.out 2).trans rfl; have hcz7_3 : w6.cell? ⟨gb315, 3, none⟩ = some (.int .i64 a0_3) := (blk_cell BK315.out 3).trans rfl; have hcz7_4 : w6.cell? ⟨gb315, 4, none⟩ = some (.int .i64 a0_4) := (blk_cell BK315.out 4).trans rfl; have hcz7_5 : w6.cell? ⟨gb315, 5, none⟩ = some (.string a0_5) := (blk_cell BK315.out 5).trans rfl; have hfz7_0 := blk_frozen BK315.out 0; have hfz7_1 := blk_frozen BK315.out 1; have hfz7_2 := blk_frozen BK315.out 2; have hfz7_3 := blk_frozen BK315.out 3; have hfz7_4 := blk_frozen BK315.out 4; have hfz7_5 := blk_frozen BK315.out 5) | (go_at_call 66; (with_reducible refine (r3_Valid.calls a0_0 true _ A2.out).mono ?_); rintro e w' ⟨rfl, ⟨nd, rfl⟩⟩; (try first | exact ⟨rfl, _, World.drewN_drewN _ _ _⟩ | exact ⟨rfl, _, Eq.trans (World.drewN_drewN _ _ _) (congrArg (World.drewN _) (Nat.add_assoc _ _ _))⟩)) | (go_at_call 15; (with_reducible refine (r3_Form.calls a0_0 t317 _ A4.out).mono ?_); rintro e w8 ⟨rfl, hb⟩; have n0_ := Aside0.mk (blk_below (g := gb315) (o := .cells #[.int .i64 a0_0, .int .i64 a0_1, .int .i64 a0_2, .int .i64 a0_3, .int .i64 a0_4, .string a0_5] 24 (0, 0)) (by (with_reducible repeat (first | refine blk_drewN ?_ _ | refine blk_drew ?_ | refine blk_alloc ?_ _)); exact BK315.out) hb); have n1_ := Aside0.mk (below_step (by repeat (first | (with_reducible first | exact HB.out | apply below_alloc | apply pw_below_drewN | apply below_drew1 | refine below_set ?_ GE315.out) | exact HB.out)) hb); clear BK315; clear HB; have BK315 := n0_; have HB := n1_; clear n0_ n1_)); go_upto_region 4 with (first | ((with_reducible refine gate_dst (N := 1) rfl ?_); refine box_event ?hg (N := 1) ?hd (cs := #[.int .i64 a0_0, .int .i64 a0_1, .int .i64 a0_2, .int .i64 a0_3, .int .i64 a0_4, .string a0_5]) (t := 24) ?hr ?_; (case hd => rfl); (case hg => rfl); (case hr => first | (go_simp; done) | (go_simp; rfl)); intro gb315 hg w6 hbox hb; have n0_ := Aside0.mk (below_step (by repeat (first | (with_reducible first | exact HB.out | apply below_alloc | apply pw_below_drewN | apply below_drew1) | exact HB.out)) hb); have n1_ := Aside0.mk (hbox); have n2_ := Aside0.mk ((by rw [hg]; exact (below_size (by repeat (first | (with_reducible first | exact HB.out | apply below_alloc | apply pw_below_drewN | apply below_drew1) | exact HB.out))) : w.heap.size ≤ gb315)); have n3_ := Aside0.mk ((by rw [hg]; exact (below_size (by repeat (first | (with_reducible first | exact HB.out | apply below_alloc | apply pw_below_drewN | apply below_drew1) | exact HB.out))) : w.heap.size ≤ gb315)); clear HB; have HB := n0_; have BK315 := n1_; have GW315 := n2_; have GE315 := n3_; clear n0_ n1_ n2_ n3_; clear hb hbox hg; have hcz7_0 : w6.cell? ⟨gb315, 0, none⟩ = some (.int .i64 a0_0) := (blk_cell BK315.out 0).trans rfl; have hcz7_1 : w6.cell? ⟨gb315, 1, none⟩ = some (.int .i64 a0_1) := (blk_cell BK315.out 1).trans rfl; have hcz7_2 : w6.cell? ⟨gb315, 2, none⟩ = some (.int .i64 a0_2) := (blk_cell BK315.out 2).trans rfl; have hcz7_3 : w6.cell? ⟨gb315, 3, none⟩ = some (.int .i64 a0_3) := (blk_cell BK315.out 3).trans rfl; have hcz7_4 : w6.cell? ⟨gb315, 4, none⟩ = some (.int .i64 a0_4) := (blk_cell BK315.out 4).trans rfl; have hcz7_5 : w6.cell? ⟨gb315, 5, none⟩ = some (.string a0_5) := (blk_cell BK315.out 5).trans rfl; have hfz7_0 := blk_frozen BK315.out 0; have hfz7_1 := blk_frozen BK315.out 1; have hfz7_2 := blk_frozen BK315.out 2; have hfz7_3 := blk_frozen BK315.out 3; have hfz7_4 := blk_frozen BK315.out 4; have hfz7_5 := blk_frozen BK315.out 5) | (go_at_call 66; (with_reducible refine (r3_Valid.calls a0_0 true _ A2.out).mono ?_); rintro e w' ⟨rfl, ⟨nd, rfl⟩⟩; (try first | exact ⟨rfl, _, World.drewN_drewN _ _ _⟩ | exact ⟨rfl, _, Eq.trans (World.drewN_drewN _ _ _) (congrArg (World.drewN _) (Nat.add_assoc _ _ _))⟩)) | (go_at_call 15; (with_reducible refine (r3_Form.calls a0_0 t317 _ A4.out).mono ?_); rintro e w8 ⟨rfl, hb⟩; have n0_ := Aside0.mk (blk_below (g := gb315) (o := .cells #[.int .i64 a0_0, .int .i64 a0_1, .int .i64 a0_2, .int .i64 a0_3, .int .i64 a0_4, .string a0_5] 24 (0, 0)) (by (with_reducible repeat (first | refine blk_drewN ?_ _ | refine blk_drew ?_ | refine blk_alloc ?_ _)); exact BK315.out) hb); have n1_ := Aside0.mk (below_step (by repeat (first | (with_reducible first | exact HB.out | apply below_alloc | apply pw_below_drewN | apply below_drew1 | refine below_set ?_ GE315.out) | exact HB.out)) hb); clear BK315; clear HB; have BK315 := n0_; have HB := n1_; clear n0_ n1_)))
  (try simp only [Act.put, List.setIfInBounds_toArray, List.set_cons_zero, List.set_cons_succ])
  go_cut [32] (fun v32 wc => ∃ (kq : Nat) (x32_4 : Bool), v32 = .bool x32_4 ∧ Aside0 (r3_Ins.j0 kq t317 x32_4 a0_0 a0_1 a0_2 a0_3 a0_4 a0_5 = some r) ∧ Aside0 (kq ≤ k) ∧ Aside0 (wc.heap[gb315]? = some (.cells #[.int .i64 a0_0, .int .i64 a0_1, .int .i64 a0_2, .int .i64 a0_3, .int .i64 a0_4, .string a0_5] 24 (0, 0))) ∧ Aside0 (Below w.heap.size w wc))
  case first =>
   have H := HC5.out
   clear HC5
   replace H := Option.bind_eq_some_iff.mp H
   obtain ⟨t318, A90, H⟩ := H
   replace H : ((r3_reg.f a0_1 t318).bind fun t319 => (if t319 = true then ((r3_HasA.f t317).bind fun t320 => ((r3_reg.f a0_2 t320).bind fun t321 => (if t321 = true then ((r3_HasB.f t317).bind fun t322 => ((r3_reg.f a0_3 t322).bind fun t323 => (r3_Ins.j0 k t317 (!t323) a0_0 a0_1 a0_2 a0_3 a0_4 a0_5))) else (r3_Ins.j0 k t317 true a0_0 a0_1 a0_2 a0_3 a0_4 a0_5)))) else (r3_Ins.j0 k t317 true a0_0 a0_1 a0_2 a0_3 a0_4 a0_5))) = some r := H
   have A9 := Aside0.mk A90
   clear A90
   replace H := Option.bind_eq_some_iff.mp H
   obtain ⟨t319, A100, H⟩ := H
   replace H : (if t319 = true then ((r3_HasA.f t317).bind fun t320 => ((r3_reg.f a0_2 t320).bind fun t321 => (if t321 = true then ((r3_HasB.f t317).bind fun t322 => ((r3_reg.f a0_3 t322).bind fun t323 => (r3_Ins.j0 k t317 (!t323) a0_0 a0_1 a0_2 a0_3 a0_4 a0_5))) else (r3_Ins.j0 k t317 true a0_0 a0_1 a0_2 a0_3 a0_4 a0_5)))) else (r3_Ins.j0 k t317 true a0_0 a0_1 a0_2 a0_3 a0_4 a0_5)) = some r := H
   have A10 := Aside0.mk A100
   clear A100
   by_cases c11 : t319 = true
   ·subst c11
    have H1 : ((r3_HasA.f t317).bind fun t320 => ((r3_reg.f a0_2 t320).bind fun t321 => (if t321 = true then ((r3_HasB.f t317).bind fun t322 => ((r3_reg.f a0_3 t322).bind fun t323 => (r3_Ins.j0 k t317 (!t323) a0_0 a0_1 a0_2 a0_3 a0_4 a0_5))) else (r3_Ins.j0 k t317 true a0_0 a0_1 a0_2 a0_3 a0_4 a0_5)))) = some r := by rw [if_pos rfl] at H; exact H
    clear H
    have H := H1
    clear H1
    replace H := Option.bind_eq_some_iff.mp H
    obtain ⟨t320, A120, H⟩ := H
    replace H : ((r3_reg.f a0_2 t320).bind fun t321 => (if t321 = true then ((r3_HasB.f t317).bind fun t322 => ((r3_reg.f a0_3 t322).bind fun t323 => (r3_Ins.j0 k t317 (!t323) a0_0 a0_1 a0_2 a0_3 a0_4 a0_5))) else (r3_Ins.j0 k t317 true a0_0 a0_1 a0_2 a0_3 a0_4 a0_5))) = some r := H
    have A12 := Aside0.mk A120
    clear A120
    replace H := Option.bind_eq_some_iff.mp H
    obtain ⟨t321, A130, H⟩ := H
    replace H : (if t321 = true then ((r3_HasB.f t317).bind fun t322 => ((r3_reg.f a0_3 t322).bind fun t323 => (r3_Ins.j0 k t317 (!t323) a0_0 a0_1 a0_2 a0_3 a0_4 a0_5))) else (r3_Ins.j0 k t317 true a0_0 a0_1 a0_2 a0_3 a0_4 a0_5)) = some r := H
    have A13 := Aside0.mk A130
    clear A130
    by_cases c14 : t321 = true
    ·subst c14
     have H1 : ((r3_HasB.f t317).bind fun t322 => ((r3_reg.f a0_3 t322).bind fun t323 => (r3_Ins.j0 k t317 (!t323) a0_0 a0_1 a0_2 a0_3 a0_4 a0_5))) = some r := by rw [if_pos rfl] at H; exact H
     clear H
     have H := H1
     clear H1
     replace H := Option.bind_eq_some_iff.mp H
     obtain ⟨t322, A150, H⟩ := H
     replace H : ((r3_reg.f a0_3 t322).bind fun t323 => (r3_Ins.j0 k t317 (!t323) a0_0 a0_1 a0_2 a0_3 a0_4 a0_5)) = some r := H
     have A15 := Aside0.mk A150
     clear A150
     replace H := Option.bind_eq_some_iff.mp H
     obtain ⟨t323, A160, H⟩ := H
     replace H : (r3_Ins.j0 k t317 (!t323) a0_0 a0_1 a0_2 a0_3 a0_4 a0_5) = some r := H
     have A16 := Aside0.mk A160
     clear A160
     have H' := Aside0.mk H
     clear H
     have hcz17_0 : w8.cell? ⟨gb315, 0, none⟩ = some (.int .i64 a0_0) := (blk_cell BK315.out 0).trans rfl
     have hcz17_1 : w8.cell? ⟨gb315, 1, none⟩ = some (.int .i64 a0_1) := (blk_cell BK315.out 1).trans rfl
     have hcz17_2 : w8.cell? ⟨gb315, 2, none⟩ = some (.int .i64 a0_2) := (blk_cell BK315.out 2).trans rfl
     have hcz17_3 : w8.cell? ⟨gb315, 3, none⟩ = some (.int .i64 a0_3) := (blk_cell BK315.out 3).trans rfl
     have hcz17_4 : w8.cell? ⟨gb315, 4, none⟩ = some (.int .i64 a0_4) := (blk_cell BK315.out 4).trans rfl
     have hcz17_5 : w8.cell? ⟨gb315, 5, none⟩ = some (.string a0_5) := (blk_cell BK315.out 5).trans rfl
     have hfz17_0 := blk_frozen BK315.out 0
     have hfz17_1 := blk_frozen BK315.out 1
     have hfz17_2 := blk_frozen BK315.out 2
     have hfz17_3 := blk_frozen BK315.out 3
     have hfz17_4 := blk_frozen BK315.out 4
     have hfz17_5 := blk_frozen BK315.out 5
     go_wp2_with (first | (go_at_call 16; (with_reducible refine (r3_HasD.calls t317 t318 _ A9.out).mono ?_); rintro e w' ⟨rfl, ⟨nd, rfl⟩⟩; (try first | exact ⟨rfl, _, World.drewN_drewN _ _ _⟩ | exact ⟨rfl, _, Eq.trans (World.drewN_drewN _ _ _) (congrArg (World.drewN _) (Nat.add_assoc _ _ _))⟩)) | (go_at_call 67; (with_reducible refine (r3_reg.calls a0_1 t318 true _ A10.out).mono ?_); rintro e w' ⟨rfl, ⟨nd, rfl⟩⟩; (try first | exact ⟨rfl, _, World.drewN_drewN _ _ _⟩ | exact ⟨rfl, _, Eq.trans (World.drewN_drewN _ _ _) (congrArg (World.drewN _) (Nat.add_assoc _ _ _))⟩)) | (go_at_call 17; (with_reducible refine (r3_HasA.calls t317 t320 _ A12.out).mono ?_); rintro e w' ⟨rfl, ⟨nd, rfl⟩⟩; (try first | exact ⟨rfl, _, World.drewN_drewN _ _ _⟩ | exact ⟨rfl, _, Eq.trans (World.drewN_drewN _ _ _) (congrArg (World.drewN _) (Nat.add_assoc _ _ _))⟩)) | (go_at_call 67; (with_reducible refine (r3_reg.calls a0_2 t320 true _ A13.out).mono ?_); rintro e w' ⟨rfl, ⟨nd, rfl⟩⟩; (try first | exact ⟨rfl, _, World.drewN_drewN _ _ _⟩ | exact ⟨rfl, _, Eq.trans (World.drewN_drewN _ _ _) (congrArg (World.drewN _) (Nat.add_assoc _ _ _))⟩)) | (go_at_call 18; (with_reducible refine (r3_HasB.calls t317 t322 _ A15.out).mono ?_); rintro e w' ⟨rfl, ⟨nd, rfl⟩⟩; (try first | exact ⟨rfl, _, World.drewN_drewN _ _ _⟩ | exact ⟨rfl, _, Eq.trans (World.drewN_drewN _ _ _) (congrArg (World.drewN _) (Nat.add_assoc _ _ _))⟩)) | (go_at_call 67; (with_reducible refine (r3_reg.calls a0_3 t322 t323 _ A16.out).mono ?_); rintro e w' ⟨rfl, ⟨nd, rfl⟩⟩; (try first | exact ⟨rfl, _, World.drewN_drewN _ _ _⟩ | exact ⟨rfl, _, Eq.trans (World.drewN_drewN _ _ _) (congrArg (World.drewN _) (Nat.add_assoc _ _ _))⟩)))
     repeat (go_quiet (first | (go_at_call 16; (with_reducible refine (r3_HasD.calls t317 t318 _ A9.out).mono ?_); rintro e w' ⟨rfl, ⟨nd, rfl⟩⟩; (try first | exact ⟨rfl, _, World.drewN_drewN _ _ _⟩ | exact ⟨rfl, _, Eq.trans (World.drewN_drewN _ _ _) (congrArg (World.drewN _) (Nat.add_assoc _ _ _))⟩)) | (go_at_call 67; (with_reducible refine (r3_reg.calls a0_1 t318 true _ A10.out).mono ?_); rintro e w' ⟨rfl, ⟨nd, rfl⟩⟩; (try first | exact ⟨rfl, _, World.drewN_drewN _ _ _⟩ | exact ⟨rfl, _, Eq.trans (World.drewN_drewN _ _ _) (congrArg (World.drewN _) (Nat.add_assoc _ _ _))⟩)) | (go_at_call 17; (with_reducible refine (r3_HasA.calls t317 t320 _ A12.out).mono ?_); rintro e w' ⟨rfl, ⟨nd, rfl⟩⟩; (try first | exact ⟨rfl, _, World.drewN_drewN _ _ _⟩ | exact ⟨rfl, _, Eq.trans (World.drewN_drewN _ _ _) (congrArg (World.drewN _) (Nat.add_assoc _ _ _))⟩)) | (go_at_call 67; (with_reducible refine (r3_reg.calls a0_2 t320 true _ A13.out).mono ?_); rintro e w' ⟨rfl, ⟨nd, rfl⟩⟩; (try first | exact ⟨rfl, _, World.drewN_drewN _ _ _⟩ | exact ⟨rfl, _, Eq.trans (World.drewN_drewN _ _ _) (congrArg (World.drewN _) (Nat.add_assoc _ _ _))⟩)) | (go_at_call 18; (with_reducible refine (r3_HasB.calls t317 t322 _ A15.out).mono ?_); rintro e w' ⟨rfl, ⟨nd, rfl⟩⟩; (try first | exact ⟨rfl, _, World.drewN_drewN _ _ _⟩ | exact ⟨rfl, _, Eq.trans (World.drewN_drewN _ _ _) (congrArg (World.drewN _) (Nat.add_assoc _ _ _))⟩)) | (go_at_call 67; (with_reducible refine (r3_reg.calls a0_3 t322 t323 _ A16.out).mono ?_); rintro e w' ⟨rfl, ⟨nd, rfl⟩⟩; (try first | exact ⟨rfl, _, World.drewN_drewN _ _ _⟩ | exact ⟨rfl, _, Eq.trans (World.drewN_drewN _ _ _) (congrArg (World.drewN _) (Nat.add_assoc _ _ _))⟩))); try go_wp2_with (first | (go_at_call 16; (with_reducible refine (r3_HasD.calls t317 t318 _ A9.out).mono ?_); rintro e w' ⟨rfl, ⟨nd, rfl⟩⟩; (try first | exact ⟨rfl, _, World.drewN_drewN _ _ _⟩ | exact ⟨rfl, _, Eq.trans (World.drewN_drewN _ _ _) (congrArg (World.drewN _) (Nat.add_assoc _ _ _))⟩)) | (go_at_call 67; (with_reducible refine (r3_reg.calls a0_1 t318 true _ A10.out).mono ?_); rintro e w' ⟨rfl, ⟨nd, rfl⟩⟩; (try first | exact ⟨rfl, _, World.drewN_drewN _ _ _⟩ | exact ⟨rfl, _, Eq.trans (World.drewN_drewN _ _ _) (congrArg (World.drewN _) (Nat.add_assoc _ _ _))⟩)) | (go_at_call 17; (with_reducible refine (r3_HasA.calls t317 t320 _ A12.out).mono ?_); rintro e w' ⟨rfl, ⟨nd, rfl⟩⟩; (try first | exact ⟨rfl, _, World.drewN_drewN _ _ _⟩ | exact ⟨rfl, _, Eq.trans (World.drewN_drewN _ _ _) (congrArg (World.drewN _) (Nat.add_assoc _ _ _))⟩)) | (go_at_call 67; (with_reducible refine (r3_reg.calls a0_2 t320 true _ A13.out).mono ?_); rintro e w' ⟨rfl, ⟨nd, rfl⟩⟩; (try first | exact ⟨rfl, _, World.drewN_drewN _ _ _⟩ | exact ⟨rfl, _, Eq.trans (World.drewN_drewN _ _ _) (congrArg (World.drewN _) (Nat.add_assoc _ _ _))⟩)) | (go_at_call 18; (with_reducible refine (r3_HasB.calls t317 t322 _ A15.out).mono ?_); rintro e w' ⟨rfl, ⟨nd, rfl⟩⟩; (try first | exact ⟨rfl, _, World.drewN_drewN _ _ _⟩ | exact ⟨rfl, _, Eq.trans (World.drewN_drewN _ _ _) (congrArg (World.drewN _) (Nat.add_assoc _ _ _))⟩)) | (go_at_call 67; (with_reducible refine (r3_reg.calls a0_3 t322 t323 _ A16.out).mono ?_); rintro e w' ⟨rfl, ⟨nd, rfl⟩⟩; (try first | exact ⟨rfl, _, World.drewN_drewN _ _ _⟩ | exact ⟨rfl, _, Eq.trans (World.drewN_drewN _ _ _) (congrArg (World.drewN _) (Nat.add_assoc _ _ _))⟩))))
     go_meet
     case rel => exact ⟨_, (!t323), (by first | rfl | (simp; done) | (simp [*]; done) | (simp [wrap64]; done) | (congr 1; rw [Bool.eq_iff_iff]; simp; done)), H', ⟨by first | omega | exact Nat.le_refl _⟩, ⟨by (with_reducible repeat (first | refine blk_drewN ?_ _ | refine blk_drew ?_ | refine blk_alloc ?_ _)); exact BK315.out⟩, ⟨by repeat (first | (with_reducible first | exact HB.out | apply below_alloc | apply pw_below_drewN | apply below_drew1 | refine below_set ?_ GE315.out) | exact HB.out)⟩⟩
    ·replace c14 := Bool.eq_false_iff.mpr c14
     subst c14
     have H1 : (r3_Ins.j0 k t317 true a0_0 a0_1 a0_2 a0_3 a0_4 a0_5) = some r := by rw [if_neg (show ¬ (false = true) by decide)] at H; exact H
     clear H
     have H := H1
     clear H1
     have H' := Aside0.mk H
     clear H
     have hcz18_0 : w8.cell? ⟨gb315, 0, none⟩ = some (.int .i64 a0_0) := (blk_cell BK315.out 0).trans rfl
     have hcz18_1 : w8.cell? ⟨gb315, 1, none⟩ = some (.int .i64 a0_1) := (blk_cell BK315.out 1).trans rfl
     have hcz18_2 : w8.cell? ⟨gb315, 2, none⟩ = some (.int .i64 a0_2) := (blk_cell BK315.out 2).trans rfl
     have hcz18_3 : w8.cell? ⟨gb315, 3, none⟩ = some (.int .i64 a0_3) := (blk_cell BK315.out 3).trans rfl
     have hcz18_4 : w8.cell? ⟨gb315, 4, none⟩ = some (.int .i64 a0_4) := (blk_cell BK315.out 4).trans rfl
     have hcz18_5 : w8.cell? ⟨gb315, 5, none⟩ = some (.string a0_5) := (blk_cell BK315.out 5).trans rfl
     have hfz18_0 := blk_frozen BK315.out 0
     have hfz18_1 := blk_frozen BK315.out 1
     have hfz18_2 := blk_frozen BK315.out 2
     have hfz18_3 := blk_frozen BK315.out 3
     have hfz18_4 := blk_frozen BK315.out 4
     have hfz18_5 := blk_frozen BK315.out 5
     go_wp2_with (first | (go_at_call 16; (with_reducible refine (r3_HasD.calls t317 t318 _ A9.out).mono ?_); rintro e w' ⟨rfl, ⟨nd, rfl⟩⟩; (try first | exact ⟨rfl, _, World.drewN_drewN _ _ _⟩ | exact ⟨rfl, _, Eq.trans (World.drewN_drewN _ _ _) (congrArg (World.drewN _) (Nat.add_assoc _ _ _))⟩)) | (go_at_call 67; (with_reducible refine (r3_reg.calls a0_1 t318 true _ A10.out).mono ?_); rintro e w' ⟨rfl, ⟨nd, rfl⟩⟩; (try first | exact ⟨rfl, _, World.drewN_drewN _ _ _⟩ | exact ⟨rfl, _, Eq.trans (World.drewN_drewN _ _ _) (congrArg (World.drewN _) (Nat.add_assoc _ _ _))⟩)) | (go_at_call 17; (with_reducible refine (r3_HasA.calls t317 t320 _ A12.out).mono ?_); rintro e w' ⟨rfl, ⟨nd, rfl⟩⟩; (try first | exact ⟨rfl, _, World.drewN_drewN _ _ _⟩ | exact ⟨rfl, _, Eq.trans (World.drewN_drewN _ _ _) (congrArg (World.drewN _) (Nat.add_assoc _ _ _))⟩)) | (go_at_call 67; (with_reducible refine (r3_reg.calls a0_2 t320 false _ A13.out).mono ?_); rintro e w' ⟨rfl, ⟨nd, rfl⟩⟩; (try first | exact ⟨rfl, _, World.drewN_drewN _ _ _⟩ | exact ⟨rfl, _, Eq.trans (World.drewN_drewN _ _ _) (congrArg (World.drewN _) (Nat.add_assoc _ _ _))⟩)))
     repeat (go_quiet (first | (go_at_call 16; (with_reducible refine (r3_HasD.calls t317 t318 _ A9.out).mono ?_); rintro e w' ⟨rfl, ⟨nd, rfl⟩⟩; (try first | exact ⟨rfl, _, World.drewN_drewN _ _ _⟩ | exact ⟨rfl, _, Eq.trans (World.drewN_drewN _ _ _) (congrArg (World.drewN _) (Nat.add_assoc _ _ _))⟩)) | (go_at_call 67; (with_reducible refine (r3_reg.calls a0_1 t318 true _ A10.out).mono ?_); rintro e w' ⟨rfl, ⟨nd, rfl⟩⟩; (try first | exact ⟨rfl, _, World.drewN_drewN _ _ _⟩ | exact ⟨rfl, _, Eq.trans (World.drewN_drewN _ _ _) (congrArg (World.drewN _) (Nat.add_assoc _ _ _))⟩)) | (go_at_call 17; (with_reducible refine (r3_HasA.calls t317 t320 _ A12.out).mono ?_); rintro e w' ⟨rfl, ⟨nd, rfl⟩⟩; (try first | exact ⟨rfl, _, World.drewN_drewN _ _ _⟩ | exact ⟨rfl, _, Eq.trans (World.drewN_drewN _ _ _) (congrArg (World.drewN _) (Nat.add_assoc _ _ _))⟩)) | (go_at_call 67; (with_reducible refine (r3_reg.calls a0_2 t320 false _ A13.out).mono ?_); rintro e w' ⟨rfl, ⟨nd, rfl⟩⟩; (try first | exact ⟨rfl, _, World.drewN_drewN _ _ _⟩ | exact ⟨rfl, _, Eq.trans (World.drewN_drewN _ _ _) (congrArg (World.drewN _) (Nat.add_assoc _ _ _))⟩))); try go_wp2_with (first | (go_at_call 16; (with_reducible refine (r3_HasD.calls t317 t318 _ A9.out).mono ?_); rintro e w' ⟨rfl, ⟨nd, rfl⟩⟩; (try first | exact ⟨rfl, _, World.drewN_drewN _ _ _⟩ | exact ⟨rfl, _, Eq.trans (World.drewN_drewN _ _ _) (congrArg (World.drewN _) (Nat.add_assoc _ _ _))⟩)) | (go_at_call 67; (with_reducible refine (r3_reg.calls a0_1 t318 true _ A10.out).mono ?_); rintro e w' ⟨rfl, ⟨nd, rfl⟩⟩; (try first | exact ⟨rfl, _, World.drewN_drewN _ _ _⟩ | exact ⟨rfl, _, Eq.trans (World.drewN_drewN _ _ _) (congrArg (World.drewN _) (Nat.add_assoc _ _ _))⟩)) | (go_at_call 17; (with_reducible refine (r3_HasA.calls t317 t320 _ A12.out).mono ?_); rintro e w' ⟨rfl, ⟨nd, rfl⟩⟩; (try first | exact ⟨rfl, _, World.drewN_drewN _ _ _⟩ | exact ⟨rfl, _, Eq.trans (World.drewN_drewN _ _ _) (congrArg (World.drewN _) (Nat.add_assoc _ _ _))⟩)) | (go_at_call 67; (with_reducible refine (r3_reg.calls a0_2 t320 false _ A13.out).mono ?_); rintro e w' ⟨rfl, ⟨nd, rfl⟩⟩; (try first | exact ⟨rfl, _, World.drewN_drewN _ _ _⟩ | exact ⟨rfl, _, Eq.trans (World.drewN_drewN _ _ _) (congrArg (World.drewN _) (Nat.add_assoc _ _ _))⟩))))
     go_meet
     case rel => exact ⟨_, (true), (by first | rfl | (simp; done) | (simp [*]; done) | (simp [wrap64]; done) | (congr 1; rw [Bool.eq_iff_iff]; simp; done)), H', ⟨by first | omega | exact Nat.le_refl _⟩, ⟨by (with_reducible repeat (first | refine blk_drewN ?_ _ | refine blk_drew ?_ | refine blk_alloc ?_ _)); exact BK315.out⟩, ⟨by repeat (first | (with_reducible first | exact HB.out | apply below_alloc | apply pw_below_drewN | apply below_drew1 | refine below_set ?_ GE315.out) | exact HB.out)⟩⟩
   ·replace c11 := Bool.eq_false_iff.mpr c11
    subst c11
    have H1 : (r3_Ins.j0 k t317 true a0_0 a0_1 a0_2 a0_3 a0_4 a0_5) = some r := by rw [if_neg (show ¬ (false = true) by decide)] at H; exact H
    clear H
    have H := H1
    clear H1
    have H' := Aside0.mk H
    clear H
    have hcz19_0 : w8.cell? ⟨gb315, 0, none⟩ = some (.int .i64 a0_0) := (blk_cell BK315.out 0).trans rfl
    have hcz19_1 : w8.cell? ⟨gb315, 1, none⟩ = some (.int .i64 a0_1) := (blk_cell BK315.out 1).trans rfl
    have hcz19_2 : w8.cell? ⟨gb315, 2, none⟩ = some (.int .i64 a0_2) := (blk_cell BK315.out 2).trans rfl
    have hcz19_3 : w8.cell? ⟨gb315, 3, none⟩ = some (.int .i64 a0_3) := (blk_cell BK315.out 3).trans rfl
    have hcz19_4 : w8.cell? ⟨gb315, 4, none⟩ = some (.int .i64 a0_4) := (blk_cell BK315.out 4).trans rfl
    have hcz19_5 : w8.cell? ⟨gb315, 5, none⟩ = some (.string a0_5) := (blk_cell BK315.out 5).trans rfl
    have hfz19_0 := blk_frozen BK315.out 0
    have hfz19_1 := blk_frozen BK315.out 1
    have hfz19_2 := blk_frozen BK315.out 2
    have hfz19_3 := blk_frozen BK315.out 3
    have hfz19_4 := blk_frozen BK315.out 4
    have hfz19_5 := blk_frozen BK315.out 5
    go_wp2_with (first | (go_at_call 16; (with_reducible refine (r3_HasD.calls t317 t318 _ A9.out).mono ?_); rintro e w' ⟨rfl, ⟨nd, rfl⟩⟩; (try first | exact ⟨rfl, _, World.drewN_drewN _ _ _⟩ | exact ⟨rfl, _, Eq.trans (World.drewN_drewN _ _ _) (congrArg (World.drewN _) (Nat.add_assoc _ _ _))⟩)) | (go_at_call 67; (with_reducible refine (r3_reg.calls a0_1 t318 false _ A10.out).mono ?_); rintro e w' ⟨rfl, ⟨nd, rfl⟩⟩; (try first | exact ⟨rfl, _, World.drewN_drewN _ _ _⟩ | exact ⟨rfl, _, Eq.trans (World.drewN_drewN _ _ _) (congrArg (World.drewN _) (Nat.add_assoc _ _ _))⟩)))
    repeat (go_quiet (first | (go_at_call 16; (with_reducible refine (r3_HasD.calls t317 t318 _ A9.out).mono ?_); rintro e w' ⟨rfl, ⟨nd, rfl⟩⟩; (try first | exact ⟨rfl, _, World.drewN_drewN _ _ _⟩ | exact ⟨rfl, _, Eq.trans (World.drewN_drewN _ _ _) (congrArg (World.drewN _) (Nat.add_assoc _ _ _))⟩)) | (go_at_call 67; (with_reducible refine (r3_reg.calls a0_1 t318 false _ A10.out).mono ?_); rintro e w' ⟨rfl, ⟨nd, rfl⟩⟩; (try first | exact ⟨rfl, _, World.drewN_drewN _ _ _⟩ | exact ⟨rfl, _, Eq.trans (World.drewN_drewN _ _ _) (congrArg (World.drewN _) (Nat.add_assoc _ _ _))⟩))); try go_wp2_with (first | (go_at_call 16; (with_reducible refine (r3_HasD.calls t317 t318 _ A9.out).mono ?_); rintro e w' ⟨rfl, ⟨nd, rfl⟩⟩; (try first | exact ⟨rfl, _, World.drewN_drewN _ _ _⟩ | exact ⟨rfl, _, Eq.trans (World.drewN_drewN _ _ _) (congrArg (World.drewN _) (Nat.add_assoc _ _ _))⟩)) | (go_at_call 67; (with_reducible refine (r3_reg.calls a0_1 t318 false _ A10.out).mono ?_); rintro e w' ⟨rfl, ⟨nd, rfl⟩⟩; (try first | exact ⟨rfl, _, World.drewN_drewN _ _ _⟩ | exact ⟨rfl, _, Eq.trans (World.drewN_drewN _ _ _) (congrArg (World.drewN _) (Nat.add_assoc _ _ _))⟩))))
    go_meet
    case rel => exact ⟨_, (true), (by first | rfl | (simp; done) | (simp [*]; done) | (simp [wrap64]; done) | (congr 1; rw [Bool.eq_iff_iff]; simp; done)), H', ⟨by first | omega | exact Nat.le_refl _⟩, ⟨by (with_reducible repeat (first | refine blk_drewN ?_ _ | refine blk_drew ?_ | refine blk_alloc ?_ _)); exact BK315.out⟩, ⟨by repeat (first | (with_reducible first | exact HB.out | apply below_alloc | apply pw_below_drewN | apply below_drew1 | refine below_set ?_ GE315.out) | exact HB.out)⟩⟩
  case rest =>
   clear HC5
   (try clear c1); (try clear p2); (try clear c3); (try clear p6); (try clear c11); (try clear c14); (try clear hcz17_0); (try clear hcz17_1); (try clear hcz17_2); (try clear hcz17_3); (try clear hcz17_4); (try clear hcz17_5); (try clear hcz18_0); (try clear hcz18_1); (try clear hcz18_2); (try clear hcz18_3); (try clear hcz18_4); (try clear hcz18_5); (try clear hcz19_0); (try clear hcz19_1); (try clear hcz19_2); (try clear hcz19_3); (try clear hcz19_4); (try clear hcz19_5); (try clear hcz7_0); (try clear hcz7_1); (try clear hcz7_2); (try clear hcz7_3); (try clear hcz7_4); (try clear hcz7_5); (try clear hfz17_0); (try clear hfz17_1); (try clear hfz17_2); (try clear hfz17_3); (try clear hfz17_4); (try clear hfz17_5); (try clear hfz18_0); (try clear hfz18_1); (try clear hfz18_2); (try clear hfz18_3); (try clear hfz18_4); (try clear hfz18_5); (try clear hfz19_0); (try clear hfz19_1); (try clear hfz19_2); (try clear hfz19_3); (try clear hfz19_4); (try clear hfz19_5); (try clear hfz7_0); (try clear hfz7_1); (try clear hfz7_2); (try clear hfz7_3); (try clear hfz7_4); (try clear hfz7_5)
   obtain ⟨kq, x32_4, rfl, HA, HJ4, BK315, HB⟩ := hcut
   cases kq with
   | zero => exact absurd HA.out (by simp [r3_Ins.j0])
   | succ kj4 =>
    have H := HA.out
    clear HA
    simp only [r3_Ins.j0] at H
    by_cases c20 : x32_4 = true
    ·subst c20
     have H1 : (some false) = some r := by rw [if_pos rfl] at H; exact H
     clear H
     have H := H1
     clear H1
     obtain rfl := Option.some.inj H
     go_wp2
     repeat (go_quiet (fail); try go_wp2)
     go_ret
     exact ⟨by first | rfl | (simp [errW_none, errW_some] <;> rfl) | (simp [*, errW_none, errW_some] <;> rfl), by repeat (first | (with_reducible first | exact HB.out | apply below_alloc | apply pw_below_drewN | apply below_drew1 | refine below_set ?_ GE315.out) | exact HB.out)⟩
    ·replace c20 := Bool.eq_false_iff.mpr c20
     subst c20
     have H1 : (if a0_5.toList = ([] : List UInt8) then ((r3_Target.f t317).bind fun t328 => (if t328 = true then ((r0_Num.f a0_4 1023).bind fun t329 => (some t329)) else ((r3_Bits.f kj4 t317).bind fun t330 => (if t330 > 0 then ((r3_Bits.f kj4 t317).bind fun t331 => ((r1_Fits.f a0_4 t330).bind fun t332 => (some t332))) else (some (a0_4 == 0)))))) else ((r3_Name.f kj4 a0_5).bind fun t324 => (if t324 = true then (if a0_0 = 23 then ((r1_Fits.f a0_4 18).bind fun t325 => (if t325 = true then (some true) else ((r3_Target.f t317).bind fun t326 => (if t326 = true then (some (a0_4 == 0)) else (some false))))) else ((r3_Target.f t317).bind fun t327 => (if t327 = true then (some (a0_4 == 0)) else (some false)))) else (some false)))) = some r := by rw [if_neg (show ¬ (false = true) by decide)] at H; exact H
     clear H
     have H := H1
     clear H1
     by_cases c21 : a0_5.toList = ([] : List UInt8)
     ·rw [if_pos c21] at H
      have c21b0 : (a0_5.toList == ([] : List UInt8)) = true := beq_iff_eq.mpr c21
      have c21b1 : (a0_5.toList != ([] : List UInt8)) = false := bne_eq_false_iff_eq.mpr c21
      clear c21
      replace H := Option.bind_eq_some_iff.mp H
      obtain ⟨t328, A220, H⟩ := H
      replace H : (if t328 = true then ((r0_Num.f a0_4 1023).bind fun t329 => (some t329)) else ((r3_Bits.f kj4 t317).bind fun t330 => (if t330 > 0 then ((r3_Bits.f kj4 t317).bind fun t331 => ((r1_Fits.f a0_4 t330).bind fun t332 => (some t332))) else (some (a0_4 == 0))))) = some r := H
      have A22 := Aside0.mk A220
      clear A220
      by_cases c23 : t328 = true
      ·subst c23
       have H1 : ((r0_Num.f a0_4 1023).bind fun t329 => (some t329)) = some r := by rw [if_pos rfl] at H; exact H
       clear H
       have H := H1
       clear H1
       replace H := Option.bind_eq_some_iff.mp H
       obtain ⟨t329, A240, H⟩ := H
       replace H : (some t329) = some r := H
       have A24 := Aside0.mk A240
       clear A240
       obtain rfl := Option.some.inj H
       have hcz25_0 : wc.cell? ⟨gb315, 0, none⟩ = some (.int .i64 a0_0) := (blk_cell BK315.out 0).trans rfl
       have hcz25_1 : wc.cell? ⟨gb315, 1, none⟩ = some (.int .i64 a0_1) := (blk_cell BK315.out 1).trans rfl
       have hcz25_2 : wc.cell? ⟨gb315, 2, none⟩ = some (.int .i64 a0_2) := (blk_cell BK315.out 2).trans rfl
       have hcz25_3 : wc.cell? ⟨gb315, 3, none⟩ = some (.int .i64 a0_3) := (blk_cell BK315.out 3).trans rfl
       have hcz25_4 : wc.cell? ⟨gb315, 4, none⟩ = some (.int .i64 a0_4) := (blk_cell BK315.out 4).trans rfl
       have hcz25_5 : wc.cell? ⟨gb315, 5, none⟩ = some (.string a0_5) := (blk_cell BK315.out 5).trans rfl
       have hfz25_0 := blk_frozen BK315.out 0
       have hfz25_1 := blk_frozen BK315.out 1
       have hfz25_2 := blk_frozen BK315.out 2
       have hfz25_3 := blk_frozen BK315.out 3
       have hfz25_4 := blk_frozen BK315.out 4
       have hfz25_5 := blk_frozen BK315.out 5
       go_wp2_with (first | (go_at_call 43; (with_reducible refine (r3_Target.calls t317 true _ A22.out).mono ?_); rintro e w' ⟨rfl, ⟨nd, rfl⟩⟩; (try first | exact ⟨rfl, _, World.drewN_drewN _ _ _⟩ | exact ⟨rfl, _, Eq.trans (World.drewN_drewN _ _ _) (congrArg (World.drewN _) (Nat.add_assoc _ _ _))⟩)) | (go_at_call 35; (with_reducible refine (r0_Num.calls a0_4 1023 t329 _ A24.out).mono ?_); rintro e w' ⟨rfl, ⟨nd, rfl⟩⟩; (try first | exact ⟨rfl, _, World.drewN_drewN _ _ _⟩ | exact ⟨rfl, _, Eq.trans (World.drewN_drewN _ _ _) (congrArg (World.drewN _) (Nat.add_assoc _ _ _))⟩)))
       repeat (go_quiet (first | (go_at_call 43; (with_reducible refine (r3_Target.calls t317 true _ A22.out).mono ?_); rintro e w' ⟨rfl, ⟨nd, rfl⟩⟩; (try first | exact ⟨rfl, _, World.drewN_drewN _ _ _⟩ | exact ⟨rfl, _, Eq.trans (World.drewN_drewN _ _ _) (congrArg (World.drewN _) (Nat.add_assoc _ _ _))⟩)) | (go_at_call 35; (with_reducible refine (r0_Num.calls a0_4 1023 t329 _ A24.out).mono ?_); rintro e w' ⟨rfl, ⟨nd, rfl⟩⟩; (try first | exact ⟨rfl, _, World.drewN_drewN _ _ _⟩ | exact ⟨rfl, _, Eq.trans (World.drewN_drewN _ _ _) (congrArg (World.drewN _) (Nat.add_assoc _ _ _))⟩))); try go_wp2_with (first | (go_at_call 43; (with_reducible refine (r3_Target.calls t317 true _ A22.out).mono ?_); rintro e w' ⟨rfl, ⟨nd, rfl⟩⟩; (try first | exact ⟨rfl, _, World.drewN_drewN _ _ _⟩ | exact ⟨rfl, _, Eq.trans (World.drewN_drewN _ _ _) (congrArg (World.drewN _) (Nat.add_assoc _ _ _))⟩)) | (go_at_call 35; (with_reducible refine (r0_Num.calls a0_4 1023 t329 _ A24.out).mono ?_); rintro e w' ⟨rfl, ⟨nd, rfl⟩⟩; (try first | exact ⟨rfl, _, World.drewN_drewN _ _ _⟩ | exact ⟨rfl, _, Eq.trans (World.drewN_drewN _ _ _) (congrArg (World.drewN _) (Nat.add_assoc _ _ _))⟩))))
       go_ret
       exact ⟨by first | rfl | (simp [errW_none, errW_some] <;> rfl) | (simp [*, errW_none, errW_some] <;> rfl), by repeat (first | (with_reducible first | exact HB.out | apply below_alloc | apply pw_below_drewN | apply below_drew1 | refine below_set ?_ GE315.out) | exact HB.out)⟩
      ·replace c23 := Bool.eq_false_iff.mpr c23
       subst c23
       have H1 : ((r3_Bits.f kj4 t317).bind fun t330 => (if t330 > 0 then ((r3_Bits.f kj4 t317).bind fun t331 => ((r1_Fits.f a0_4 t330).bind fun t332 => (some t332))) else (some (a0_4 == 0)))) = some r := by rw [if_neg (show ¬ (false = true) by decide)] at H; exact H
       clear H
       have H := H1
       clear H1
       replace H := Option.bind_eq_some_iff.mp H
       obtain ⟨t330, A260, H⟩ := H
       replace H : (if t330 > 0 then ((r3_Bits.f kj4 t317).bind fun t331 => ((r1_Fits.f a0_4 t330).bind fun t332 => (some t332))) else (some (a0_4 == 0))) = some r := H
       have A26 := Aside0.mk A260
       clear A260
       by_cases c27 : t330 > 0
       ·rw [if_pos c27] at H
        have c27b0 : decide (0 < t330) = true := decide_eq_true c27
        clear c27
        replace H := Option.bind_eq_some_iff.mp H
        obtain ⟨t331, A280, H⟩ := H
        replace H : ((r1_Fits.f a0_4 t330).bind fun t332 => (some t332)) = some r := H
        have A28 := Aside0.mk A280
        clear A280
        obtain rfl : t330 = t331 := Option.some.inj (A26.out.symm.trans A28.out)
        replace H := Option.bind_eq_some_iff.mp H
        obtain ⟨t332, A290, H⟩ := H
        replace H : (some t332) = some r := H
        have A29 := Aside0.mk A290
        clear A290
        obtain rfl := Option.some.inj H
        have hcz30_0 : wc.cell? ⟨gb315, 0, none⟩ = some (.int .i64 a0_0) := (blk_cell BK315.out 0).trans rfl
        have hcz30_1 : wc.cell? ⟨gb315, 1, none⟩ = some (.int .i64 a0_1) := (blk_cell BK315.out 1).trans rfl
        have hcz30_2 : wc.cell? ⟨gb315, 2, none⟩ = some (.int .i64 a0_2) := (blk_cell BK315.out 2).trans rfl
        have hcz30_3 : wc.cell? ⟨gb315, 3, none⟩ = some (.int .i64 a0_3) := (blk_cell BK315.out 3).trans rfl
        have hcz30_4 : wc.cell? ⟨gb315, 4, none⟩ = some (.int .i64 a0_4) := (blk_cell BK315.out 4).trans rfl
        have hcz30_5 : wc.cell? ⟨gb315, 5, none⟩ = some (.string a0_5) := (blk_cell BK315.out 5).trans rfl
        have hfz30_0 := blk_frozen BK315.out 0
        have hfz30_1 := blk_frozen BK315.out 1
        have hfz30_2 := blk_frozen BK315.out 2
        have hfz30_3 := blk_frozen BK315.out 3
        have hfz30_4 := blk_frozen BK315.out 4
        have hfz30_5 := blk_frozen BK315.out 5
        go_wp2_with (first | (go_at_call 43; (with_reducible refine (r3_Target.calls t317 false _ A22.out).mono ?_); rintro e w' ⟨rfl, ⟨nd, rfl⟩⟩; (try first | exact ⟨rfl, _, World.drewN_drewN _ _ _⟩ | exact ⟨rfl, _, Eq.trans (World.drewN_drewN _ _ _) (congrArg (World.drewN _) (Nat.add_assoc _ _ _))⟩)) | (go_at_call 70; (with_reducible refine (r3_Bits.calls kj4 t317 t330 _ A26.out).mono ?_); rintro e w' ⟨rfl, ⟨nd, rfl⟩⟩; (try first | exact ⟨rfl, _, World.drewN_drewN _ _ _⟩ | exact ⟨rfl, _, Eq.trans (World.drewN_drewN _ _ _) (congrArg (World.drewN _) (Nat.add_assoc _ _ _))⟩)) | (go_at_call 70; (with_reducible refine (r3_Bits.calls kj4 t317 t330 _ A28.out).mono ?_); rintro e w' ⟨rfl, ⟨nd, rfl⟩⟩; (try first | exact ⟨rfl, _, World.drewN_drewN _ _ _⟩ | exact ⟨rfl, _, Eq.trans (World.drewN_drewN _ _ _) (congrArg (World.drewN _) (Nat.add_assoc _ _ _))⟩)) | (go_at_call 69; (with_reducible refine (r1_Fits.calls a0_4 t330 t332 _ A29.out).mono ?_); rintro e w' ⟨rfl, ⟨nd, rfl⟩⟩; (try first | exact ⟨rfl, _, World.drewN_drewN _ _ _⟩ | exact ⟨rfl, _, Eq.trans (World.drewN_drewN _ _ _) (congrArg (World.drewN _) (Nat.add_assoc _ _ _))⟩)))
        repeat (go_quiet (first | (go_at_call 43; (with_reducible refine (r3_Target.calls t317 false _ A22.out).mono ?_); rintro e w' ⟨rfl, ⟨nd, rfl⟩⟩; (try first | exact ⟨rfl, _, World.drewN_drewN _ _ _⟩ | exact ⟨rfl, _, Eq.trans (World.drewN_drewN _ _ _) (congrArg (World.drewN _) (Nat.add_assoc _ _ _))⟩)) | (go_at_call 70; (with_reducible refine (r3_Bits.calls kj4 t317 t330 _ A26.out).mono ?_); rintro e w' ⟨rfl, ⟨nd, rfl⟩⟩; (try first | exact ⟨rfl, _, World.drewN_drewN _ _ _⟩ | exact ⟨rfl, _, Eq.trans (World.drewN_drewN _ _ _) (congrArg (World.drewN _) (Nat.add_assoc _ _ _))⟩)) | (go_at_call 70; (with_reducible refine (r3_Bits.calls kj4 t317 t330 _ A28.out).mono ?_); rintro e w' ⟨rfl, ⟨nd, rfl⟩⟩; (try first | exact ⟨rfl, _, World.drewN_drewN _ _ _⟩ | exact ⟨rfl, _, Eq.trans (World.drewN_drewN _ _ _) (congrArg (World.drewN _) (Nat.add_assoc _ _ _))⟩)) | (go_at_call 69; (with_reducible refine (r1_Fits.calls a0_4 t330 t332 _ A29.out).mono ?_); rintro e w' ⟨rfl, ⟨nd, rfl⟩⟩; (try first | exact ⟨rfl, _, World.drewN_drewN _ _ _⟩ | exact ⟨rfl, _, Eq.trans (World.drewN_drewN _ _ _) (congrArg (World.drewN _) (Nat.add_assoc _ _ _))⟩))); try go_wp2_with (first | (go_at_call 43; (with_reducible refine (r3_Target.calls t317 false _ A22.out).mono ?_); rintro e w' ⟨rfl, ⟨nd, rfl⟩⟩; (try first | exact ⟨rfl, _, World.drewN_drewN _ _ _⟩ | exact ⟨rfl, _, Eq.trans (World.drewN_drewN _ _ _) (congrArg (World.drewN _) (Nat.add_assoc _ _ _))⟩)) | (go_at_call 70; (with_reducible refine (r3_Bits.calls kj4 t317 t330 _ A26.out).mono ?_); rintro e w' ⟨rfl, ⟨nd, rfl⟩⟩; (try first | exact ⟨rfl, _, World.drewN_drewN _ _ _⟩ | exact ⟨rfl, _, Eq.trans (World.drewN_drewN _ _ _) (congrArg (World.drewN _) (Nat.add_assoc _ _ _))⟩)) | (go_at_call 70; (with_reducible refine (r3_Bits.calls kj4 t317 t330 _ A28.out).mono ?_); rintro e w' ⟨rfl, ⟨nd, rfl⟩⟩; (try first | exact ⟨rfl, _, World.drewN_drewN _ _ _⟩ | exact ⟨rfl, _, Eq.trans (World.drewN_drewN _ _ _) (congrArg (World.drewN _) (Nat.add_assoc _ _ _))⟩)) | (go_at_call 69; (with_reducible refine (r1_Fits.calls a0_4 t330 t332 _ A29.out).mono ?_); rintro e w' ⟨rfl, ⟨nd, rfl⟩⟩; (try first | exact ⟨rfl, _, World.drewN_drewN _ _ _⟩ | exact ⟨rfl, _, Eq.trans (World.drewN_drewN _ _ _) (congrArg (World.drewN _) (Nat.add_assoc _ _ _))⟩))))
        go_ret
        exact ⟨by first | rfl | (simp [errW_none, errW_some] <;> rfl) | (simp [*, errW_none, errW_some] <;> rfl), by repeat (first | (with_reducible first | exact HB.out | apply below_alloc | apply pw_below_drewN | apply below_drew1 | refine below_set ?_ GE315.out) | exact HB.out)⟩
       ·rw [if_neg c27] at H
        have c27b0 : decide (0 < t330) = false := decide_eq_false c27
        clear c27
        obtain rfl := Option.some.inj H
        have hcz31_0 : wc.cell? ⟨gb315, 0, none⟩ = some (.int .i64 a0_0) := (blk_cell BK315.out 0).trans rfl
        have hcz31_1 : wc.cell? ⟨gb315, 1, none⟩ = some (.int .i64 a0_1) := (blk_cell BK315.out 1).trans rfl
        have hcz31_2 : wc.cell? ⟨gb315, 2, none⟩ = some (.int .i64 a0_2) := (blk_cell BK315.out 2).trans rfl
        have hcz31_3 : wc.cell? ⟨gb315, 3, none⟩ = some (.int .i64 a0_3) := (blk_cell BK315.out 3).trans rfl
        have hcz31_4 : wc.cell? ⟨gb315, 4, none⟩ = some (.int .i64 a0_4) := (blk_cell BK315.out 4).trans rfl
        have hcz31_5 : wc.cell? ⟨gb315, 5, none⟩ = some (.string a0_5) := (blk_cell BK315.out 5).trans rfl
        have hfz31_0 := blk_frozen BK315.out 0
        have hfz31_1 := blk_frozen BK315.out 1
        have hfz31_2 := blk_frozen BK315.out 2
        have hfz31_3 := blk_frozen BK315.out 3
        have hfz31_4 := blk_frozen BK315.out 4
        have hfz31_5 := blk_frozen BK315.out 5
        go_wp2_with (first | (go_at_call 43; (with_reducible refine (r3_Target.calls t317 false _ A22.out).mono ?_); rintro e w' ⟨rfl, ⟨nd, rfl⟩⟩; (try first | exact ⟨rfl, _, World.drewN_drewN _ _ _⟩ | exact ⟨rfl, _, Eq.trans (World.drewN_drewN _ _ _) (congrArg (World.drewN _) (Nat.add_assoc _ _ _))⟩)) | (go_at_call 70; (with_reducible refine (r3_Bits.calls kj4 t317 t330 _ A26.out).mono ?_); rintro e w' ⟨rfl, ⟨nd, rfl⟩⟩; (try first | exact ⟨rfl, _, World.drewN_drewN _ _ _⟩ | exact ⟨rfl, _, Eq.trans (World.drewN_drewN _ _ _) (congrArg (World.drewN _) (Nat.add_assoc _ _ _))⟩)))
        repeat (go_quiet (first | (go_at_call 43; (with_reducible refine (r3_Target.calls t317 false _ A22.out).mono ?_); rintro e w' ⟨rfl, ⟨nd, rfl⟩⟩; (try first | exact ⟨rfl, _, World.drewN_drewN _ _ _⟩ | exact ⟨rfl, _, Eq.trans (World.drewN_drewN _ _ _) (congrArg (World.drewN _) (Nat.add_assoc _ _ _))⟩)) | (go_at_call 70; (with_reducible refine (r3_Bits.calls kj4 t317 t330 _ A26.out).mono ?_); rintro e w' ⟨rfl, ⟨nd, rfl⟩⟩; (try first | exact ⟨rfl, _, World.drewN_drewN _ _ _⟩ | exact ⟨rfl, _, Eq.trans (World.drewN_drewN _ _ _) (congrArg (World.drewN _) (Nat.add_assoc _ _ _))⟩))); try go_wp2_with (first | (go_at_call 43; (with_reducible refine (r3_Target.calls t317 false _ A22.out).mono ?_); rintro e w' ⟨rfl, ⟨nd, rfl⟩⟩; (try first | exact ⟨rfl, _, World.drewN_drewN _ _ _⟩ | exact ⟨rfl, _, Eq.trans (World.drewN_drewN _ _ _) (congrArg (World.drewN _) (Nat.add_assoc _ _ _))⟩)) | (go_at_call 70; (with_reducible refine (r3_Bits.calls kj4 t317 t330 _ A26.out).mono ?_); rintro e w' ⟨rfl, ⟨nd, rfl⟩⟩; (try first | exact ⟨rfl, _, World.drewN_drewN _ _ _⟩ | exact ⟨rfl, _, Eq.trans (World.drewN_drewN _ _ _) (congrArg (World.drewN _) (Nat.add_assoc _ _ _))⟩))))
        go_ret
        exact ⟨by first | rfl | (simp [errW_none, errW_some] <;> rfl) | (simp [*, errW_none, errW_some] <;> rfl), by repeat (first | (with_reducible first | exact HB.out | apply below_alloc | apply pw_below_drewN | apply below_drew1 | refine below_set ?_ GE315.out) | exact HB.out)⟩
     ·rw [if_neg c21] at H
      have c21b0 : (a0_5.toList == ([] : List UInt8)) = false := beq_eq_false_iff_ne.mpr c21
      have c21b1 : (a0_5.toList != ([] : List UInt8)) = true := bne_iff_ne.mpr c21
      replace H := Option.bind_eq_some_iff.mp H
      obtain ⟨t324, A320, H⟩ := H
      replace H : (if t324 = true then (if a0_0 = 23 then ((r1_Fits.f a0_4 18).bind fun t325 => (if t325 = true then (some true) else ((r3_Target.f t317).bind fun t326 => (if t326 = true then (some (a0_4 == 0)) else (some false))))) else ((r3_Target.f t317).bind fun t327 => (if t327 = true then (some (a0_4 == 0)) else (some false)))) else (some false)) = some r := H
      have A32 := Aside0.mk A320
      clear A320
      by_cases c33 : t324 = true
      ·subst c33
       have H1 : (if a0_0 = 23 then ((r1_Fits.f a0_4 18).bind fun t325 => (if t325 = true then (some true) else ((r3_Target.f t317).bind fun t326 => (if t326 = true then (some (a0_4 == 0)) else (some false))))) else ((r3_Target.f t317).bind fun t327 => (if t327 = true then (some (a0_4 == 0)) else (some false)))) = some r := by rw [if_pos rfl] at H; exact H
       clear H
       have H := H1
       clear H1
       by_cases c34 : a0_0 = 23
       ·rw [if_pos c34] at H
        have c34b0 : (a0_0 == 23) = true := beq_iff_eq.mpr c34
        have c34b1 : (a0_0 != 23) = false := bne_eq_false_iff_eq.mpr c34
        clear c34
        replace H := Option.bind_eq_some_iff.mp H
        obtain ⟨t325, A350, H⟩ := H
        replace H : (if t325 = true then (some true) else ((r3_Target.f t317).bind fun t326 => (if t326 = true then (some (a0_4 == 0)) else (some false)))) = some r := H
        have A35 := Aside0.mk A350
        clear A350
        by_cases c36 : t325 = true
        ·subst c36
         have H1 : (some true) = some r := by rw [if_pos rfl] at H; exact H
         clear H
         have H := H1
         clear H1
         obtain rfl := Option.some.inj H
         have hcz37_0 : wc.cell? ⟨gb315, 0, none⟩ = some (.int .i64 a0_0) := (blk_cell BK315.out 0).trans rfl
         have hcz37_1 : wc.cell? ⟨gb315, 1, none⟩ = some (.int .i64 a0_1) := (blk_cell BK315.out 1).trans rfl
         have hcz37_2 : wc.cell? ⟨gb315, 2, none⟩ = some (.int .i64 a0_2) := (blk_cell BK315.out 2).trans rfl
         have hcz37_3 : wc.cell? ⟨gb315, 3, none⟩ = some (.int .i64 a0_3) := (blk_cell BK315.out 3).trans rfl
         have hcz37_4 : wc.cell? ⟨gb315, 4, none⟩ = some (.int .i64 a0_4) := (blk_cell BK315.out 4).trans rfl
         have hcz37_5 : wc.cell? ⟨gb315, 5, none⟩ = some (.string a0_5) := (blk_cell BK315.out 5).trans rfl
         have hfz37_0 := blk_frozen BK315.out 0
         have hfz37_1 := blk_frozen BK315.out 1
         have hfz37_2 := blk_frozen BK315.out 2
         have hfz37_3 := blk_frozen BK315.out 3
         have hfz37_4 := blk_frozen BK315.out 4
         have hfz37_5 := blk_frozen BK315.out 5
         go_wp2_with (first | (go_at_call 68; (with_reducible refine (r3_Name.calls kj4 a0_5 true _ A32.out).mono ?_); rintro e w' ⟨rfl, ⟨nd, rfl⟩⟩; (try first | exact ⟨rfl, _, World.drewN_drewN _ _ _⟩ | exact ⟨rfl, _, Eq.trans (World.drewN_drewN _ _ _) (congrArg (World.drewN _) (Nat.add_assoc _ _ _))⟩)) | (go_at_call 69; (with_reducible refine (r1_Fits.calls a0_4 18 true _ A35.out).mono ?_); rintro e w' ⟨rfl, ⟨nd, rfl⟩⟩; (try first | exact ⟨rfl, _, World.drewN_drewN _ _ _⟩ | exact ⟨rfl, _, Eq.trans (World.drewN_drewN _ _ _) (congrArg (World.drewN _) (Nat.add_assoc _ _ _))⟩)))
         repeat (go_quiet (first | (go_at_call 68; (with_reducible refine (r3_Name.calls kj4 a0_5 true _ A32.out).mono ?_); rintro e w' ⟨rfl, ⟨nd, rfl⟩⟩; (try first | exact ⟨rfl, _, World.drewN_drewN _ _ _⟩ | exact ⟨rfl, _, Eq.trans (World.drewN_drewN _ _ _) (congrArg (World.drewN _) (Nat.add_assoc _ _ _))⟩)) | (go_at_call 69; (with_reducible refine (r1_Fits.calls a0_4 18 true _ A35.out).mono ?_); rintro e w' ⟨rfl, ⟨nd, rfl⟩⟩; (try first | exact ⟨rfl, _, World.drewN_drewN _ _ _⟩ | exact ⟨rfl, _, Eq.trans (World.drewN_drewN _ _ _) (congrArg (World.drewN _) (Nat.add_assoc _ _ _))⟩))); try go_wp2_with (first | (go_at_call 68; (with_reducible refine (r3_Name.calls kj4 a0_5 true _ A32.out).mono ?_); rintro e w' ⟨rfl, ⟨nd, rfl⟩⟩; (try first | exact ⟨rfl, _, World.drewN_drewN _ _ _⟩ | exact ⟨rfl, _, Eq.trans (World.drewN_drewN _ _ _) (congrArg (World.drewN _) (Nat.add_assoc _ _ _))⟩)) | (go_at_call 69; (with_reducible refine (r1_Fits.calls a0_4 18 true _ A35.out).mono ?_); rintro e w' ⟨rfl, ⟨nd, rfl⟩⟩; (try first | exact ⟨rfl, _, World.drewN_drewN _ _ _⟩ | exact ⟨rfl, _, Eq.trans (World.drewN_drewN _ _ _) (congrArg (World.drewN _) (Nat.add_assoc _ _ _))⟩))))
         go_ret
         exact ⟨by first | rfl | (simp [errW_none, errW_some] <;> rfl) | (simp [*, errW_none, errW_some] <;> rfl), by repeat (first | (with_reducible first | exact HB.out | apply below_alloc | apply pw_below_drewN | apply below_drew1 | refine below_set ?_ GE315.out) | exact HB.out)⟩
        ·replace c36 := Bool.eq_false_iff.mpr c36
         subst c36
         have H1 : ((r3_Target.f t317).bind fun t326 => (if t326 = true then (some (a0_4 == 0)) else (some false))) = some r := by rw [if_neg (show ¬ (false = true) by decide)] at H; exact H
         clear H
         have H := H1
         clear H1
         replace H := Option.bind_eq_some_iff.mp H
         obtain ⟨t326, A380, H⟩ := H
         replace H : (if t326 = true then (some (a0_4 == 0)) else (some false)) = some r := H
         have A38 := Aside0.mk A380
         clear A380
         by_cases c39 : t326 = true
         ·subst c39
          have H1 : (some (a0_4 == 0)) = some r := by rw [if_pos rfl] at H; exact H
          clear H
          have H := H1
          clear H1
          obtain rfl := Option.some.inj H
          have hcz40_0 : wc.cell? ⟨gb315, 0, none⟩ = some (.int .i64 a0_0) := (blk_cell BK315.out 0).trans rfl
          have hcz40_1 : wc.cell? ⟨gb315, 1, none⟩ = some (.int .i64 a0_1) := (blk_cell BK315.out 1).trans rfl
          have hcz40_2 : wc.cell? ⟨gb315, 2, none⟩ = some (.int .i64 a0_2) := (blk_cell BK315.out 2).trans rfl
          have hcz40_3 : wc.cell? ⟨gb315, 3, none⟩ = some (.int .i64 a0_3) := (blk_cell BK315.out 3).trans rfl
          have hcz40_4 : wc.cell? ⟨gb315, 4, none⟩ = some (.int .i64 a0_4) := (blk_cell BK315.out 4).trans rfl
          have hcz40_5 : wc.cell? ⟨gb315, 5, none⟩ = some (.string a0_5) := (blk_cell BK315.out 5).trans rfl
          have hfz40_0 := blk_frozen BK315.out 0
          have hfz40_1 := blk_frozen BK315.out 1
          have hfz40_2 := blk_frozen BK315.out 2
          have hfz40_3 := blk_frozen BK315.out 3
          have hfz40_4 := blk_frozen BK315.out 4
          have hfz40_5 := blk_frozen BK315.out 5
          go_wp2_with (first | (go_at_call 68; (with_reducible refine (r3_Name.calls kj4 a0_5 true _ A32.out).mono ?_); rintro e w' ⟨rfl, ⟨nd, rfl⟩⟩; (try first | exact ⟨rfl, _, World.drewN_drewN _ _ _⟩ | exact ⟨rfl, _, Eq.trans (World.drewN_drewN _ _ _) (congrArg (World.drewN _) (Nat.add_assoc _ _ _))⟩)) | (go_at_call 69; (with_reducible refine (r1_Fits.calls a0_4 18 false _ A35.out).mono ?_); rintro e w' ⟨rfl, ⟨nd, rfl⟩⟩; (try first | exact ⟨rfl, _, World.drewN_drewN _ _ _⟩ | exact ⟨rfl, _, Eq.trans (World.drewN_drewN _ _ _) (congrArg (World.drewN _) (Nat.add_assoc _ _ _))⟩)) | (go_at_call 43; (with_reducible refine (r3_Target.calls t317 true _ A38.out).mono ?_); rintro e w' ⟨rfl, ⟨nd, rfl⟩⟩; (try first | exact ⟨rfl, _, World.drewN_drewN _ _ _⟩ | exact ⟨rfl, _, Eq.trans (World.drewN_drewN _ _ _) (congrArg (World.drewN _) (Nat.add_assoc _ _ _))⟩)))
          repeat (go_quiet (first | (go_at_call 68; (with_reducible refine (r3_Name.calls kj4 a0_5 true _ A32.out).mono ?_); rintro e w' ⟨rfl, ⟨nd, rfl⟩⟩; (try first | exact ⟨rfl, _, World.drewN_drewN _ _ _⟩ | exact ⟨rfl, _, Eq.trans (World.drewN_drewN _ _ _) (congrArg (World.drewN _) (Nat.add_assoc _ _ _))⟩)) | (go_at_call 69; (with_reducible refine (r1_Fits.calls a0_4 18 false _ A35.out).mono ?_); rintro e w' ⟨rfl, ⟨nd, rfl⟩⟩; (try first | exact ⟨rfl, _, World.drewN_drewN _ _ _⟩ | exact ⟨rfl, _, Eq.trans (World.drewN_drewN _ _ _) (congrArg (World.drewN _) (Nat.add_assoc _ _ _))⟩)) | (go_at_call 43; (with_reducible refine (r3_Target.calls t317 true _ A38.out).mono ?_); rintro e w' ⟨rfl, ⟨nd, rfl⟩⟩; (try first | exact ⟨rfl, _, World.drewN_drewN _ _ _⟩ | exact ⟨rfl, _, Eq.trans (World.drewN_drewN _ _ _) (congrArg (World.drewN _) (Nat.add_assoc _ _ _))⟩))); try go_wp2_with (first | (go_at_call 68; (with_reducible refine (r3_Name.calls kj4 a0_5 true _ A32.out).mono ?_); rintro e w' ⟨rfl, ⟨nd, rfl⟩⟩; (try first | exact ⟨rfl, _, World.drewN_drewN _ _ _⟩ | exact ⟨rfl, _, Eq.trans (World.drewN_drewN _ _ _) (congrArg (World.drewN _) (Nat.add_assoc _ _ _))⟩)) | (go_at_call 69; (with_reducible refine (r1_Fits.calls a0_4 18 false _ A35.out).mono ?_); rintro e w' ⟨rfl, ⟨nd, rfl⟩⟩; (try first | exact ⟨rfl, _, World.drewN_drewN _ _ _⟩ | exact ⟨rfl, _, Eq.trans (World.drewN_drewN _ _ _) (congrArg (World.drewN _) (Nat.add_assoc _ _ _))⟩)) | (go_at_call 43; (with_reducible refine (r3_Target.calls t317 true _ A38.out).mono ?_); rintro e w' ⟨rfl, ⟨nd, rfl⟩⟩; (try first | exact ⟨rfl, _, World.drewN_drewN _ _ _⟩ | exact ⟨rfl, _, Eq.trans (World.drewN_drewN _ _ _) (congrArg (World.drewN _) (Nat.add_assoc _ _ _))⟩))))
          go_ret
          exact ⟨by first | rfl | (simp [errW_none, errW_some] <;> rfl) | (simp [*, errW_none, errW_some] <;> rfl), by repeat (first | (with_reducible first | exact HB.out | apply below_alloc | apply pw_below_drewN | apply below_drew1 | refine below_set ?_ GE315.out) | exact HB.out)⟩
         ·replace c39 := Bool.eq_false_iff.mpr c39
          subst c39
          have H1 : (some false) = some r := by rw [if_neg (show ¬ (false = true) by decide)] at H; exact H
          clear H
          have H := H1
          clear H1
          obtain rfl := Option.some.inj H
          have hcz41_0 : wc.cell? ⟨gb315, 0, none⟩ = some (.int .i64 a0_0) := (blk_cell BK315.out 0).trans rfl
          have hcz41_1 : wc.cell? ⟨gb315, 1, none⟩ = some (.int .i64 a0_1) := (blk_cell BK315.out 1).trans rfl
          have hcz41_2 : wc.cell? ⟨gb315, 2, none⟩ = some (.int .i64 a0_2) := (blk_cell BK315.out 2).trans rfl
          have hcz41_3 : wc.cell? ⟨gb315, 3, none⟩ = some (.int .i64 a0_3) := (blk_cell BK315.out 3).trans rfl
          have hcz41_4 : wc.cell? ⟨gb315, 4, none⟩ = some (.int .i64 a0_4) := (blk_cell BK315.out 4).trans rfl
          have hcz41_5 : wc.cell? ⟨gb315, 5, none⟩ = some (.string a0_5) := (blk_cell BK315.out 5).trans rfl
          have hfz41_0 := blk_frozen BK315.out 0
          have hfz41_1 := blk_frozen BK315.out 1
          have hfz41_2 := blk_frozen BK315.out 2
          have hfz41_3 := blk_frozen BK315.out 3
          have hfz41_4 := blk_frozen BK315.out 4
          have hfz41_5 := blk_frozen BK315.out 5
          go_wp2_with (first | (go_at_call 68; (with_reducible refine (r3_Name.calls kj4 a0_5 true _ A32.out).mono ?_); rintro e w' ⟨rfl, ⟨nd, rfl⟩⟩; (try first | exact ⟨rfl, _, World.drewN_drewN _ _ _⟩ | exact ⟨rfl, _, Eq.trans (World.drewN_drewN _ _ _) (congrArg (World.drewN _) (Nat.add_assoc _ _ _))⟩)) | (go_at_call 69; (with_reducible refine (r1_Fits.calls a0_4 18 false _ A35.out).mono ?_); rintro e w' ⟨rfl, ⟨nd, rfl⟩⟩; (try first | exact ⟨rfl, _, World.drewN_drewN _ _ _⟩ | exact ⟨rfl, _, Eq.trans (World.drewN_drewN _ _ _) (congrArg (World.drewN _) (Nat.add_assoc _ _ _))⟩)) | (go_at_call 43; (with_reducible refine (r3_Target.calls t317 false _ A38.out).mono ?_); rintro e w' ⟨rfl, ⟨nd, rfl⟩⟩; (try first | exact ⟨rfl, _, World.drewN_drewN _ _ _⟩ | exact ⟨rfl, _, Eq.trans (World.drewN_drewN _ _ _) (congrArg (World.drewN _) (Nat.add_assoc _ _ _))⟩)))
          repeat (go_quiet (first | (go_at_call 68; (with_reducible refine (r3_Name.calls kj4 a0_5 true _ A32.out).mono ?_); rintro e w' ⟨rfl, ⟨nd, rfl⟩⟩; (try first | exact ⟨rfl, _, World.drewN_drewN _ _ _⟩ | exact ⟨rfl, _, Eq.trans (World.drewN_drewN _ _ _) (congrArg (World.drewN _) (Nat.add_assoc _ _ _))⟩)) | (go_at_call 69; (with_reducible refine (r1_Fits.calls a0_4 18 false _ A35.out).mono ?_); rintro e w' ⟨rfl, ⟨nd, rfl⟩⟩; (try first | exact ⟨rfl, _, World.drewN_drewN _ _ _⟩ | exact ⟨rfl, _, Eq.trans (World.drewN_drewN _ _ _) (congrArg (World.drewN _) (Nat.add_assoc _ _ _))⟩)) | (go_at_call 43; (with_reducible refine (r3_Target.calls t317 false _ A38.out).mono ?_); rintro e w' ⟨rfl, ⟨nd, rfl⟩⟩; (try first | exact ⟨rfl, _, World.drewN_drewN _ _ _⟩ | exact ⟨rfl, _, Eq.trans (World.drewN_drewN _ _ _) (congrArg (World.drewN _) (Nat.add_assoc _ _ _))⟩))); try go_wp2_with (first | (go_at_call 68; (with_reducible refine (r3_Name.calls kj4 a0_5 true _ A32.out).mono ?_); rintro e w' ⟨rfl, ⟨nd, rfl⟩⟩; (try first | exact ⟨rfl, _, World.drewN_drewN _ _ _⟩ | exact ⟨rfl, _, Eq.trans (World.drewN_drewN _ _ _) (congrArg (World.drewN _) (Nat.add_assoc _ _ _))⟩)) | (go_at_call 69; (with_reducible refine (r1_Fits.calls a0_4 18 false _ A35.out).mono ?_); rintro e w' ⟨rfl, ⟨nd, rfl⟩⟩; (try first | exact ⟨rfl, _, World.drewN_drewN _ _ _⟩ | exact ⟨rfl, _, Eq.trans (World.drewN_drewN _ _ _) (congrArg (World.drewN _) (Nat.add_assoc _ _ _))⟩)) | (go_at_call 43; (with_reducible refine (r3_Target.calls t317 false _ A38.out).mono ?_); rintro e w' ⟨rfl, ⟨nd, rfl⟩⟩; (try first | exact ⟨rfl, _, World.drewN_drewN _ _ _⟩ | exact ⟨rfl, _, Eq.trans (World.drewN_drewN _ _ _) (congrArg (World.drewN _) (Nat.add_assoc _ _ _))⟩))))
          go_ret
          exact ⟨by first | rfl | (simp [errW_none, errW_some] <;> rfl) | (simp [*, errW_none, errW_some] <;> rfl), by repeat (first | (with_reducible first | exact HB.out | apply below_alloc | apply pw_below_drewN | apply below_drew1 | refine below_set ?_ GE315.out) | exact HB.out)⟩
       ·rw [if_neg c34] at H
        have c34b0 : (a0_0 == 23) = false := beq_eq_false_iff_ne.mpr c34
        have c34b1 : (a0_0 != 23) = true := bne_iff_ne.mpr c34
        replace H := Option.bind_eq_some_iff.mp H
        obtain ⟨t327, A420, H⟩ := H
        replace H : (if t327 = true then (some (a0_4 == 0)) else (some false)) = some r := H
        have A42 := Aside0.mk A420
        clear A420
        by_cases c43 : t327 = true
        ·subst c43
         have H1 : (some (a0_4 == 0)) = some r := by rw [if_pos rfl] at H; exact H
         clear H
         have H := H1
         clear H1
         obtain rfl := Option.some.inj H
         have hcz44_0 : wc.cell? ⟨gb315, 0, none⟩ = some (.int .i64 a0_0) := (blk_cell BK315.out 0).trans rfl
         have hcz44_1 : wc.cell? ⟨gb315, 1, none⟩ = some (.int .i64 a0_1) := (blk_cell BK315.out 1).trans rfl
         have hcz44_2 : wc.cell? ⟨gb315, 2, none⟩ = some (.int .i64 a0_2) := (blk_cell BK315.out 2).trans rfl
         have hcz44_3 : wc.cell? ⟨gb315, 3, none⟩ = some (.int .i64 a0_3) := (blk_cell BK315.out 3).trans rfl
         have hcz44_4 : wc.cell? ⟨gb315, 4, none⟩ = some (.int .i64 a0_4) := (blk_cell BK315.out 4).trans rfl
         have hcz44_5 : wc.cell? ⟨gb315, 5, none⟩ = some (.string a0_5) := (blk_cell BK315.out 5).trans rfl
         have hfz44_0 := blk_frozen BK315.out 0
         have hfz44_1 := blk_frozen BK315.out 1
         have hfz44_2 := blk_frozen BK315.out 2
         have hfz44_3 := blk_frozen BK315.out 3
         have hfz44_4 := blk_frozen BK315.out 4
         have hfz44_5 := blk_frozen BK315.out 5
         go_wp2_with (first | (go_at_call 68; (with_reducible refine (r3_Name.calls kj4 a0_5 true _ A32.out).mono ?_); rintro e w' ⟨rfl, ⟨nd, rfl⟩⟩; (try first | exact ⟨rfl, _, World.drewN_drewN _ _ _⟩ | exact ⟨rfl, _, Eq.trans (World.drewN_drewN _ _ _) (congrArg (World.drewN _) (Nat.add_assoc _ _ _))⟩)) | (go_at_call 43; (with_reducible refine (r3_Target.calls t317 true _ A42.out).mono ?_); rintro e w' ⟨rfl, ⟨nd, rfl⟩⟩; (try first | exact ⟨rfl, _, World.drewN_drewN _ _ _⟩ | exact ⟨rfl, _, Eq.trans (World.drewN_drewN _ _ _) (congrArg (World.drewN _) (Nat.add_assoc _ _ _))⟩)))
         repeat (go_quiet (first | (go_at_call 68; (with_reducible refine (r3_Name.calls kj4 a0_5 true _ A32.out).mono ?_); rintro e w' ⟨rfl, ⟨nd, rfl⟩⟩; (try first | exact ⟨rfl, _, World.drewN_drewN _ _ _⟩ | exact ⟨rfl, _, Eq.trans (World.drewN_drewN _ _ _) (congrArg (World.drewN _) (Nat.add_assoc _ _ _))⟩)) | (go_at_call 43; (with_reducible refine (r3_Target.calls t317 true _ A42.out).mono ?_); rintro e w' ⟨rfl, ⟨nd, rfl⟩⟩; (try first | exact ⟨rfl, _, World.drewN_drewN _ _ _⟩ | exact ⟨rfl, _, Eq.trans (World.drewN_drewN _ _ _) (congrArg (World.drewN _) (Nat.add_assoc _ _ _))⟩))); try go_wp2_with (first | (go_at_call 68; (with_reducible refine (r3_Name.calls kj4 a0_5 true _ A32.out).mono ?_); rintro e w' ⟨rfl, ⟨nd, rfl⟩⟩; (try first | exact ⟨rfl, _, World.drewN_drewN _ _ _⟩ | exact ⟨rfl, _, Eq.trans (World.drewN_drewN _ _ _) (congrArg (World.drewN _) (Nat.add_assoc _ _ _))⟩)) | (go_at_call 43; (with_reducible refine (r3_Target.calls t317 true _ A42.out).mono ?_); rintro e w' ⟨rfl, ⟨nd, rfl⟩⟩; (try first | exact ⟨rfl, _, World.drewN_drewN _ _ _⟩ | exact ⟨rfl, _, Eq.trans (World.drewN_drewN _ _ _) (congrArg (World.drewN _) (Nat.add_assoc _ _ _))⟩))))
         go_ret
         exact ⟨by first | rfl | (simp [errW_none, errW_some] <;> rfl) | (simp [*, errW_none, errW_some] <;> rfl), by repeat (first | (with_reducible first | exact HB.out | apply below_alloc | apply pw_below_drewN | apply below_drew1 | refine below_set ?_ GE315.out) | exact HB.out)⟩
        ·replace c43 := Bool.eq_false_iff.mpr c43
         subst c43
         have H1 : (some false) = some r := by rw [if_neg (show ¬ (false = true) by decide)] at H; exact H
         clear H
         have H := H1
         clear H1
         obtain rfl := Option.some.inj H
         have hcz45_0 : wc.cell? ⟨gb315, 0, none⟩ = some (.int .i64 a0_0) := (blk_cell BK315.out 0).trans rfl
         have hcz45_1 : wc.cell? ⟨gb315, 1, none⟩ = some (.int .i64 a0_1) := (blk_cell BK315.out 1).trans rfl
         have hcz45_2 : wc.cell? ⟨gb315, 2, none⟩ = some (.int .i64 a0_2) := (blk_cell BK315.out 2).trans rfl
         have hcz45_3 : wc.cell? ⟨gb315, 3, none⟩ = some (.int .i64 a0_3) := (blk_cell BK315.out 3).trans rfl
         have hcz45_4 : wc.cell? ⟨gb315, 4, none⟩ = some (.int .i64 a0_4) := (blk_cell BK315.out 4).trans rfl
         have hcz45_5 : wc.cell? ⟨gb315, 5, none⟩ = some (.string a0_5) := (blk_cell BK315.out 5).trans rfl
         have hfz45_0 := blk_frozen BK315.out 0
         have hfz45_1 := blk_frozen BK315.out 1
         have hfz45_2 := blk_frozen BK315.out 2
         have hfz45_3 := blk_frozen BK315.out 3
         have hfz45_4 := blk_frozen BK315.out 4
         have hfz45_5 := blk_frozen BK315.out 5
         go_wp2_with (first | (go_at_call 68; (with_reducible refine (r3_Name.calls kj4 a0_5 true _ A32.out).mono ?_); rintro e w' ⟨rfl, ⟨nd, rfl⟩⟩; (try first | exact ⟨rfl, _, World.drewN_drewN _ _ _⟩ | exact ⟨rfl, _, Eq.trans (World.drewN_drewN _ _ _) (congrArg (World.drewN _) (Nat.add_assoc _ _ _))⟩)) | (go_at_call 43; (with_reducible refine (r3_Target.calls t317 false _ A42.out).mono ?_); rintro e w' ⟨rfl, ⟨nd, rfl⟩⟩; (try first | exact ⟨rfl, _, World.drewN_drewN _ _ _⟩ | exact ⟨rfl, _, Eq.trans (World.drewN_drewN _ _ _) (congrArg (World.drewN _) (Nat.add_assoc _ _ _))⟩)))
         repeat (go_quiet (first | (go_at_call 68; (with_reducible refine (r3_Name.calls kj4 a0_5 true _ A32.out).mono ?_); rintro e w' ⟨rfl, ⟨nd, rfl⟩⟩; (try first | exact ⟨rfl, _, World.drewN_drewN _ _ _⟩ | exact ⟨rfl, _, Eq.trans (World.drewN_drewN _ _ _) (congrArg (World.drewN _) (Nat.add_assoc _ _ _))⟩)) | (go_at_call 43; (with_reducible refine (r3_Target.calls t317 false _ A42.out).mono ?_); rintro e w' ⟨rfl, ⟨nd, rfl⟩⟩; (try first | exact ⟨rfl, _, World.drewN_drewN _ _ _⟩ | exact ⟨rfl, _, Eq.trans (World.drewN_drewN _ _ _) (congrArg (World.drewN _) (Nat.add_assoc _ _ _))⟩))); try go_wp2_with (first | (go_at_call 68; (with_reducible refine (r3_Name.calls kj4 a0_5 true _ A32.out).mono ?_); rintro e w' ⟨rfl, ⟨nd, rfl⟩⟩; (try first | exact ⟨rfl, _, World.drewN_drewN _ _ _⟩ | exact ⟨rfl, _, Eq.trans (World.drewN_drewN _ _ _) (congrArg (World.drewN _) (Nat.add_assoc _ _ _))⟩)) | (go_at_call 43; (with_reducible refine (r3_Target.calls t317 false _ A42.out).mono ?_); rintro e w' ⟨rfl, ⟨nd, rfl⟩⟩; (try first | exact ⟨rfl, _, World.drewN_drewN _ _ _⟩ | exact ⟨rfl, _, Eq.trans (World.drewN_drewN _ _ _) (congrArg (World.drewN _) (Nat.add_assoc _ _ _))⟩))))
         go_ret
         exact ⟨by first | rfl | (simp [errW_none, errW_some] <;> rfl) | (simp [*, errW_none, errW_some] <;> rfl), by repeat (first | (with_reducible first | exact HB.out | apply below_alloc | apply pw_below_drewN | apply below_drew1 | refine below_set ?_ GE315.out) | exact HB.out)⟩
      ·replace c33 := Bool.eq_false_iff.mpr c33
       subst c33
       have H1 : (some false) = some r := by rw [if_neg (show ¬ (false = true) by decide)] at H; exact H
       clear H
       have H := H1
       clear H1
       obtain rfl := Option.some.inj H
       have hcz46_0 : wc.cell? ⟨gb315, 0, none⟩ = some (.int .i64 a0_0) := (blk_cell BK315.out 0).trans rfl
       have hcz46_1 : wc.cell? ⟨gb315, 1, none⟩ = some (.int .i64 a0_1) := (blk_cell BK315.out 1).trans rfl
       have hcz46_2 : wc.cell? ⟨gb315, 2, none⟩ = some (.int .i64 a0_2) := (blk_cell BK315.out 2).trans rfl
       have hcz46_3 : wc.cell? ⟨gb315, 3, none⟩ = some (.int .i64 a0_3) := (blk_cell BK315.out 3).trans rfl
       have hcz46_4 : wc.cell? ⟨gb315, 4, none⟩ = some (.int .i64 a0_4) := (blk_cell BK315.out 4).trans rfl
       have hcz46_5 : wc.cell? ⟨gb315, 5, none⟩ = some (.string a0_5) := (blk_cell BK315.out 5).trans rfl
       have hfz46_0 := blk_frozen BK315.out 0
       have hfz46_1 := blk_frozen BK315.out 1
       have hfz46_2 := blk_frozen BK315.out 2
       have hfz46_3 := blk_frozen BK315.out 3
       have hfz46_4 := blk_frozen BK315.out 4
       have hfz46_5 := blk_frozen BK315.out 5
       go_wp2_with (first | (go_at_call 68; (with_reducible refine (r3_Name.calls kj4 a0_5 false _ A32.out).mono ?_); rintro e w' ⟨rfl, ⟨nd, rfl⟩⟩; (try first | exact ⟨rfl, _, World.drewN_drewN _ _ _⟩ | exact ⟨rfl, _, Eq.trans (World.drewN_drewN _ _ _) (congrArg (World.drewN _) (Nat.add_assoc _ _ _))⟩)))
       repeat (go_quiet (first | (go_at_call 68; (with_reducible refine (r3_Name.calls kj4 a0_5 false _ A32.out).mono ?_); rintro e w' ⟨rfl, ⟨nd, rfl⟩⟩; (try first | exact ⟨rfl, _, World.drewN_drewN _ _ _⟩ | exact ⟨rfl, _, Eq.trans (World.drewN_drewN _ _ _) (congrArg (World.drewN _) (Nat.add_assoc _ _ _))⟩))); try go_wp2_with (first | (go_at_call 68; (with_reducible refine (r3_Name.calls kj4 a0_5 false _ A32.out).mono ?_); rintro e w' ⟨rfl, ⟨nd, rfl⟩⟩; (try first | exact ⟨rfl, _, World.drewN_drewN _ _ _⟩ | exact ⟨rfl, _, Eq.trans (World.drewN_drewN _ _ _) (congrArg (World.drewN _) (Nat.add_assoc _ _ _))⟩))))
       go_ret
       exact ⟨by first | rfl | (simp [errW_none, errW_some] <;> rfl) | (simp [*, errW_none, errW_some] <;> rfl), by repeat (first | (with_reducible first | exact HB.out | apply below_alloc | apply pw_below_drewN | apply below_drew1 | refine below_set ?_ GE315.out) | exact HB.out)⟩
 ·replace c3 := Bool.eq_false_iff.mpr c3
  subst c3
  have H1 : (some false) = some r := by rw [if_neg (show ¬ (false = true) by decide)] at H; exact H
  clear H
  have H := H1
  clear H1
  obtain rfl := Option.some.inj H
  go_enter Try.func39, Try.ntmps39
  go_wp2_with (first | ((with_reducible refine gate_dst (N := 1) rfl ?_); refine box_event ?hg (N := 1) ?hd (cs := #[.int .i64 a0_0, .int .i64 a0_1, .int .i64 a0_2, .int .i64 a0_3, .int .i64 a0_4, .string a0_5]) (t := 24) ?hr ?_; (case hd => rfl); (case hg => rfl); (case hr => first | (go_simp; done) | (go_simp; rfl)); intro gb315 hg w47 hbox hb; have n0_ := Aside0.mk (below_step (by repeat (first | (with_reducible first | exact HB.out | apply below_alloc | apply pw_below_drewN | apply below_drew1) | exact HB.out)) hb); have n1_ := Aside0.mk (hbox); have n2_ := Aside0.mk ((by rw [hg]; exact (below_size (by repeat (first | (with_reducible first | exact HB.out | apply below_alloc | apply pw_below_drewN | apply below_drew1) | exact HB.out))) : w.heap.size ≤ gb315)); have n3_ := Aside0.mk ((by rw [hg]; exact (below_size (by repeat (first | (with_reducible first | exact HB.out | apply below_alloc | apply pw_below_drewN | apply below_drew1) | exact HB.out))) : w.heap.size ≤ gb315)); clear HB; have HB := n0_; have BK315 := n1_; have GW315 := n2_; have GE315 := n3_; clear n0_ n1_ n2_ n3_; clear hb hbox hg; have hcz48_0 : w47.cell? ⟨gb315, 0, none⟩ = some (.int .i64 a0_0) := (blk_cell BK315.out 0).trans rfl; have hcz48_1 : w47.cell? ⟨gb315, 1, none⟩ = some (.int .i64 a0_1) := (blk_cell BK315.out 1).trans rfl; have hcz48_2 : w47.cell? ⟨gb315, 2, none⟩ = some (.int .i64 a0_2) := (blk_cell BK315.out 2).trans rfl; have hcz48_3 : w47.cell? ⟨gb315, 3, none⟩ = some (.int .i64 a0_3) := (blk_cell BK315.out 3).trans rfl; have hcz48_4 : w47.cell? ⟨gb315, 4, none⟩ = some (.int .i64 a0_4) := (blk_cell BK315.out 4).trans rfl; have hcz48_5 : w47.cell? ⟨gb315, 5, none⟩ = some (.string a0_5) := (blk_cell BK315.out 5).trans rfl; have hfz48_0 := blk_frozen BK315.out 0; have hfz48_1 := blk_frozen BK315.out 1; have hfz48_2 := blk_frozen BK315.out 2; have hfz48_3 := blk_frozen BK315.out 3; have hfz48_4 := blk_frozen BK315.out 4; have hfz48_5 := blk_frozen BK315.out 5) | (go_at_call 66; (with_reducible refine (r3_Valid.calls a0_0 false _ A2.out).mono ?_); rintro e w' ⟨rfl, ⟨nd, rfl⟩⟩; (try first | exact ⟨rfl, _, World.drewN_drewN _ _ _⟩ | exact ⟨rfl, _, Eq.trans (World.drewN_drewN _ _ _) (congrArg (World.drewN _) (Nat.add_assoc _ _ _))⟩)))
  repeat (go_quiet (first | ((with_reducible refine gate_dst (N := 1) rfl ?_); refine box_event ?hg (N := 1) ?hd (cs := #[.int .i64 a0_0, .int .i64 a0_1, .int .i64 a0_2, .int .i64 a0_3, .int .i64 a0_4, .string a0_5]) (t := 24) ?hr ?_; (case hd => rfl); (case hg => rfl); (case hr => first | (go_simp; done) | (go_simp; rfl)); intro gb315 hg w47 hbox hb; have n0_ := Aside0.mk (below_step (by repeat (first | (with_reducible first | exact HB.out | apply below_alloc | apply pw_below_drewN | apply below_drew1) | exact HB.out)) hb); have n1_ := Aside0.mk (hbox); have n2_ := Aside0.mk ((by rw [hg]; exact (below_size (by repeat (first | (with_reducible first | exact HB.out | apply below_alloc | apply pw_below_drewN | apply below_drew1) | exact HB.out))) : w.heap.size ≤ gb315)); have n3_ := Aside0.mk ((by rw [hg]; exact (below_size (by repeat (first | (with_reducible first | exact HB.out | apply below_alloc | apply pw_below_drewN | apply below_drew1) | exact HB.out))) : w.heap.size ≤ gb315)); clear HB; have HB := n0_; have BK315 := n1_; have GW315 := n2_; have GE315 := n3_; clear n0_ n1_ n2_ n3_; clear hb hbox hg; have hcz48_0 : w47.cell? ⟨gb315, 0, none⟩ = some (.int .i64 a0_0) := (blk_cell BK315.out 0).trans rfl; have hcz48_1 : w47.cell? ⟨gb315, 1, none⟩ = some (.int .i64 a0_1) := (blk_cell BK315.out 1).trans rfl; have hcz48_2 : w47.cell? ⟨gb315, 2, none⟩ = some (.int .i64 a0_2) := (blk_cell BK315.out 2).trans rfl; have hcz48_3 : w47.cell? ⟨gb315, 3, none⟩ = some (.int .i64 a0_3) := (blk_cell BK315.out 3).trans rfl; have hcz48_4 : w47.cell? ⟨gb315, 4, none⟩ = some (.int .i64 a0_4) := (blk_cell BK315.out 4).trans rfl; have hcz48_5 : w47.cell? ⟨gb315, 5, none⟩ = some (.string a0_5) := (blk_cell BK315.out 5).trans rfl; have hfz48_0 := blk_frozen BK315.out 0; have hfz48_1 := blk_frozen BK315.out 1; have hfz48_2 := blk_frozen BK315.out 2; have hfz48_3 := blk_frozen BK315.out 3; have hfz48_4 := blk_frozen BK315.out 4; have hfz48_5 := blk_frozen BK315.out 5) | (go_at_call 66; (with_reducible refine (r3_Valid.calls a0_0 false _ A2.out).mono ?_); rintro e w' ⟨rfl, ⟨nd, rfl⟩⟩; (try first | exact ⟨rfl, _, World.drewN_drewN _ _ _⟩ | exact ⟨rfl, _, Eq.trans (World.drewN_drewN _ _ _) (congrArg (World.drewN _) (Nat.add_assoc _ _ _))⟩))); try go_wp2_with (first | ((with_reducible refine gate_dst (N := 1) rfl ?_); refine box_event ?hg (N := 1) ?hd (cs := #[.int .i64 a0_0, .int .i64 a0_1, .int .i64 a0_2, .int .i64 a0_3, .int .i64 a0_4, .string a0_5]) (t := 24) ?hr ?_; (case hd => rfl); (case hg => rfl); (case hr => first | (go_simp; done) | (go_simp; rfl)); intro gb315 hg w47 hbox hb; have n0_ := Aside0.mk (below_step (by repeat (first | (with_reducible first | exact HB.out | apply below_alloc | apply pw_below_drewN | apply below_drew1) | exact HB.out)) hb); have n1_ := Aside0.mk (hbox); have n2_ := Aside0.mk ((by rw [hg]; exact (below_size (by repeat (first | (with_reducible first | exact HB.out | apply below_alloc | apply pw_below_drewN | apply below_drew1) | exact HB.out))) : w.heap.size ≤ gb315)); have n3_ := Aside0.mk ((by rw [hg]; exact (below_size (by repeat (first | (with_reducible first | exact HB.out | apply below_alloc | apply pw_below_drewN | apply below_drew1) | exact HB.out))) : w.heap.size ≤ gb315)); clear HB; have HB := n0_; have BK315 := n1_; have GW315 := n2_; have GE315 := n3_; clear n0_ n1_ n2_ n3_; clear hb hbox hg; have hcz48_0 : w47.cell? ⟨gb315, 0, none⟩ = some (.int .i64 a0_0) := (blk_cell BK315.out 0).trans rfl; have hcz48_1 : w47.cell? ⟨gb315, 1, none⟩ = some (.int .i64 a0_1) := (blk_cell BK315.out 1).trans rfl; have hcz48_2 : w47.cell? ⟨gb315, 2, none⟩ = some (.int .i64 a0_2) := (blk_cell BK315.out 2).trans rfl; have hcz48_3 : w47.cell? ⟨gb315, 3, none⟩ = some (.int .i64 a0_3) := (blk_cell BK315.out 3).trans rfl; have hcz48_4 : w47.cell? ⟨gb315, 4, none⟩ = some (.int .i64 a0_4) := (blk_cell BK315.out 4).trans rfl; have hcz48_5 : w47.cell? ⟨gb315, 5, none⟩ = some (.string a0_5) := (blk_cell BK315.out 5).trans rfl; have hfz48_0 := blk_frozen BK315.out 0; have hfz48_1 := blk_frozen BK315.out 1; have hfz48_2 := blk_frozen BK315.out 2; have hfz48_3 := blk_frozen BK315.out 3; have hfz48_4 := blk_frozen BK315.out 4; have hfz48_5 := blk_frozen BK315.out 5) | (go_at_call 66; (with_reducible refine (r3_Valid.calls a0_0 false _ A2.out).mono ?_); rintro e w' ⟨rfl, ⟨nd, rfl⟩⟩; (try first | exact ⟨rfl, _, World.drewN_drewN _ _ _⟩ | exact ⟨rfl, _, Eq.trans (World.drewN_drewN _ _ _) (congrArg (World.drewN _) (Nat.add_assoc _ _ _))⟩))))
  go_ret
  exact ⟨by first | rfl | (simp [errW_none, errW_some] <;> rfl) | (simp [*, errW_none, errW_some] <;> rfl), by repeat (first | (with_reducible first | exact HB.out | apply below_alloc | apply pw_below_drewN | apply below_drew1 | refine below_set ?_ GE315.out) | exact HB.out)⟩
def r3_Ends.f (a0 : Int) : Option (Bool) := (r0_Between.f a0 28 33).bind fun t333 => (some t333)
set_option maxHeartbeats 8000000 in
set_option maxRecDepth 100000 in
theorem r3_Ends.calls (a0 : Int) (r : Bool) (w : World) (h : r3_Ends.f a0 = some r) :
  Calls Try.prog 40 #[.int .i64 a0] w fun e w' => e = .returned (.bool r) ∧ Drawn0 w w' := by
 have H : ((r0_Between.f a0 28 33).bind fun t333 => (some t333)) = some r := h
 clear h
 replace H := Option.bind_eq_some_iff.mp H
 obtain ⟨t333, A20, H⟩ := H
 replace H : (some t333) = some r := H
 have A2 := Aside0.mk A20
 clear A20
 obtain rfl := Option.some.inj H
 go_enter Try.func40, Try.ntmps40
 go_wp2_with (first | ((with_reducible refine gate_callee (f := 54) rfl ?_); refine goesL_ (some 4) rfl rfl Try.func54 (by kernel_rfl) rfl #[.int .i64 a0, .int .i64 28, .int .i64 33] rfl (by (try simp only [List.map_toArray, List.map_cons, List.map_nil]); first | done | rfl | (simp only [List.length_drop, List.length_take]; rfl)) ?_; (with_reducible refine (r0_Between.calls a0 28 33 t333 _ A2.out).mono ?_); rintro e w' ⟨rfl, ⟨nd, rfl⟩⟩; refine ⟨_, rfl, ?_⟩))
 go_ret
 exact ⟨by first | rfl | (simp; done) | (simp [*]; done) | (simp [wrap64]; done) | (congr 1; rw [Bool.eq_iff_iff]; simp; done), by repeat (first | exact Drawn0.refl _ | apply Drawn0.step)⟩
end Go.Proofs.Ytibfkkjkahpobaa.PDag
