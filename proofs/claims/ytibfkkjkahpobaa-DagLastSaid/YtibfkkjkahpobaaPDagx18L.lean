-- the texts that this claim needs, out of this session's and its print's (wip/shrink.py)
import Derived.Test.YtibfkkjkahpobaaPDagx0L
import Derived.Test.YtibfkkjkahpobaaPDagx3L
import Derived.Test.YtibfkkjkahpobaaPDagx16L
import Derived.Test.YtibfkkjkahpobaaPDagx17L
namespace Go.Proofs.Ytibfkkjkahpobaa.PDag
open Go.RowKit Go.Proofs.YtibfkkjkahpobaaW.PrintWords Go.Proofs.YtibfkkjkahpobaaW.PrintLast Go.Proofs.YtibfkkjkahpobaaW.PrintMore
attribute [local go_sem] max2_int min2_int max_two min_two max_three min_three max_four min_four   -- for this text's walks alone
set_option linter.unusedVariables false
set_option linter.unusedSimpArgs false
def r3_Ins.j0 : Nat → Int → Bool → Int → Int → Int → Int → Int → ByteArray → Option (Bool)
  | 0, _, _, _, _, _, _, _, _ => none
  | k + 1, x3, x32, x351a, x351b, x351c, x351d, x351e, x351f => if x32 = true then (some false) else (if x351f.toList = ([] : List UInt8) then ((r3_Target.f x3).bind fun t363 => (if t363 = true then ((r0_Num.f x351e 1023).bind fun t364 => (some t364)) else ((r3_Bits.f k x3).bind fun t365 => (if t365 > 0 then ((r3_Bits.f k x3).bind fun t366 => ((r1_Fits.f x351e t365).bind fun t367 => (some t367))) else (some (x351e == 0)))))) else ((r3_Name.f k x351f).bind fun t359 => (if t359 = true then (if x351a = 23 then ((r1_Fits.f x351e 18).bind fun t360 => (if t360 = true then (some true) else ((r3_Target.f x3).bind fun t361 => (if t361 = true then (some (x351e == 0)) else (some false))))) else ((r3_Target.f x3).bind fun t362 => (if t362 = true then (some (x351e == 0)) else (some false)))) else (some false))))
def r3_Ins.f (k : Nat) (a0_0 : Int) (a0_1 : Int) (a0_2 : Int) (a0_3 : Int) (a0_4 : Int) (a0_5 : ByteArray) : Option (Bool) := (r3_Valid.f a0_0).bind fun t351 => (if t351 = true then ((r3_Form.f a0_0).bind fun t352 => ((r3_HasD.f t352).bind fun t353 => ((r3_reg.f a0_1 t353).bind fun t354 => (if t354 = true then ((r3_HasA.f t352).bind fun t355 => ((r3_reg.f a0_2 t355).bind fun t356 => (if t356 = true then ((r3_HasB.f t352).bind fun t357 => ((r3_reg.f a0_3 t357).bind fun t358 => (r3_Ins.j0 k t352 (!t358) a0_0 a0_1 a0_2 a0_3 a0_4 a0_5))) else (r3_Ins.j0 k t352 true a0_0 a0_1 a0_2 a0_3 a0_4 a0_5)))) else (r3_Ins.j0 k t352 true a0_0 a0_1 a0_2 a0_3 a0_4 a0_5))))) else (some false))
set_option maxHeartbeats 8000000 in
set_option maxRecDepth 100000 in
theorem r3_Ins.calls (k : Nat) (a0_0 : Int) (a0_1 : Int) (a0_2 : Int) (a0_3 : Int) (a0_4 : Int) (a0_5 : ByteArray) (r : Bool) (w : World) (h : r3_Ins.f k a0_0 a0_1 a0_2 a0_3 a0_4 a0_5 = some r) :
    Calls Try.prog 39 #[.agg #[.int .i64 a0_0, .int .i64 a0_1, .int .i64 a0_2, .int .i64 a0_3, .int .i64 a0_4, .string a0_5]] w fun e w' => e = .returned (.bool r) ∧ Below w.heap.size w w' := by
 have hu24 := Try.underlying24
 have HB := As_.mk (Below.refl w.heap.size w)
 have H : ((r3_Valid.f a0_0).bind fun t351 => (if t351 = true then ((r3_Form.f a0_0).bind fun t352 => ((r3_HasD.f t352).bind fun t353 => ((r3_reg.f a0_1 t353).bind fun t354 => (if t354 = true then ((r3_HasA.f t352).bind fun t355 => ((r3_reg.f a0_2 t355).bind fun t356 => (if t356 = true then ((r3_HasB.f t352).bind fun t357 => ((r3_reg.f a0_3 t357).bind fun t358 => (r3_Ins.j0 k t352 (!t358) a0_0 a0_1 a0_2 a0_3 a0_4 a0_5))) else (r3_Ins.j0 k t352 true a0_0 a0_1 a0_2 a0_3 a0_4 a0_5)))) else (r3_Ins.j0 k t352 true a0_0 a0_1 a0_2 a0_3 a0_4 a0_5))))) else (some false))) = some r := h
 clear h
 replace H := Option.bind_eq_some_iff.mp H
 obtain ⟨t351, A20, H⟩ := H
 replace H : (if t351 = true then ((r3_Form.f a0_0).bind fun t352 => ((r3_HasD.f t352).bind fun t353 => ((r3_reg.f a0_1 t353).bind fun t354 => (if t354 = true then ((r3_HasA.f t352).bind fun t355 => ((r3_reg.f a0_2 t355).bind fun t356 => (if t356 = true then ((r3_HasB.f t352).bind fun t357 => ((r3_reg.f a0_3 t357).bind fun t358 => (r3_Ins.j0 k t352 (!t358) a0_0 a0_1 a0_2 a0_3 a0_4 a0_5))) else (r3_Ins.j0 k t352 true a0_0 a0_1 a0_2 a0_3 a0_4 a0_5)))) else (r3_Ins.j0 k t352 true a0_0 a0_1 a0_2 a0_3 a0_4 a0_5))))) else (some false)) = some r := H
 have A2 := As_.mk A20
 clear A20
 by_cases c3 : t351 = true
 ·subst c3
  have H1 : ((r3_Form.f a0_0).bind fun t352 => ((r3_HasD.f t352).bind fun t353 => ((r3_reg.f a0_1 t353).bind fun t354 => (if t354 = true then ((r3_HasA.f t352).bind fun t355 => ((r3_reg.f a0_2 t355).bind fun t356 => (if t356 = true then ((r3_HasB.f t352).bind fun t357 => ((r3_reg.f a0_3 t357).bind fun t358 => (r3_Ins.j0 k t352 (!t358) a0_0 a0_1 a0_2 a0_3 a0_4 a0_5))) else (r3_Ins.j0 k t352 true a0_0 a0_1 a0_2 a0_3 a0_4 a0_5)))) else (r3_Ins.j0 k t352 true a0_0 a0_1 a0_2 a0_3 a0_4 a0_5))))) = some r := by rw [if_pos rfl] at H; exact H
  clear H
  have H := H1
  clear H1
  replace H := Option.bind_eq_some_iff.mp H
  obtain ⟨t352, A40, H⟩ := H
  replace H : ((r3_HasD.f t352).bind fun t353 => ((r3_reg.f a0_1 t353).bind fun t354 => (if t354 = true then ((r3_HasA.f t352).bind fun t355 => ((r3_reg.f a0_2 t355).bind fun t356 => (if t356 = true then ((r3_HasB.f t352).bind fun t357 => ((r3_reg.f a0_3 t357).bind fun t358 => (r3_Ins.j0 k t352 (!t358) a0_0 a0_1 a0_2 a0_3 a0_4 a0_5))) else (r3_Ins.j0 k t352 true a0_0 a0_1 a0_2 a0_3 a0_4 a0_5)))) else (r3_Ins.j0 k t352 true a0_0 a0_1 a0_2 a0_3 a0_4 a0_5)))) = some r := H
  have A4 := As_.mk A40
  clear A40
  have HC5 := As_.mk H
  clear H
  go_enter Try.func39, Try.ntmps39
  go_upto_region 4 with (first | ((with_reducible refine gate_dst (N := 1) rfl ?_); refine box_event ?hg (N := 1) ?hd (cs := #[.int .i64 a0_0, .int .i64 a0_1, .int .i64 a0_2, .int .i64 a0_3, .int .i64 a0_4, .string a0_5]) (t := 24) ?hr ?_; (case hd => rfl); (case hg => rfl); (case hr => first | (go_simp; done) | (go_simp; rfl)); intro gb350 hg w6 hbox hb; have n0_ := As_.mk (bT_ (by repeat (first | (with_reducible first | exact HB.out | apply bA_ | apply bN_ | apply b1_) | exact HB.out)) hb); have n1_ := As_.mk (hbox); have n2_ := As_.mk ((by rw [hg]; exact (bY_ (by repeat (first | (with_reducible first | exact HB.out | apply bA_ | apply bN_ | apply b1_) | exact HB.out))) : w.heap.size ≤ gb350)); have n3_ := As_.mk ((by rw [hg]; exact (bY_ (by repeat (first | (with_reducible first | exact HB.out | apply bA_ | apply bN_ | apply b1_) | exact HB.out))) : w.heap.size ≤ gb350)); clear HB; have HB := n0_; have BK350 := n1_; have GW350 := n2_; have GE350 := n3_; clear n0_ n1_ n2_ n3_; clear hb hbox hg; have hcz7_0 : w6.cell? ⟨gb350, 0, none⟩ = some (.int .i64 a0_0) := (bC_ BK350.out 0).trans rfl; have hcz7_1 : w6.cell? ⟨gb350, 1, none⟩ = some (.int .i64 a0_1) := (bC_ BK350.out 1).trans rfl; have hcz7_2 : w6.cell? ⟨gb350, 2, none⟩ = some (.int .i64 a0_2) := (bC_ BK350.out 2).trans rfl; have hcz7_3 : w6.cell? ⟨gb350, 3, none⟩ = some (.int .i64 a0_3) := (bC_ BK350.out 3).trans rfl; have hcz7_4 : w6.cell? ⟨gb350, 4, none⟩ = some (.int .i64 a0_4) := (bC_ BK350.out 4).trans rfl; have hcz7_5 : w6.cell? ⟨gb350, 5, none⟩ = some (.string a0_5) := (bC_ BK350.out 5).trans rfl; have hfz7_0 := bZ_ BK350.out 0; have hfz7_1 := bZ_ BK350.out 1; have hfz7_2 := bZ_ BK350.out 2; have hfz7_3 := bZ_ BK350.out 3; have hfz7_4 := bZ_ BK350.out 4; have hfz7_5 := bZ_ BK350.out 5) | (go_at_call 66; (with_reducible refine (r3_Valid.calls a0_0 true _ A2.out).mono ?_); rintro e w' ⟨rfl, ⟨nd, rfl⟩⟩; (try first | exact ⟨rfl, _, World.drewN_drewN _ _ _⟩ | exact ⟨rfl, _, Eq.trans (World.drewN_drewN _ _ _) (congrArg (World.drewN _) (Nat.add_assoc _ _ _))⟩)) | (go_at_call 15; (with_reducible refine (r3_Form.calls a0_0 t352 _ A4.out).mono ?_); rintro e w8 ⟨rfl, hb⟩; have n0_ := As_.mk (kB_ (g := gb350) (o := .cells #[.int .i64 a0_0, .int .i64 a0_1, .int .i64 a0_2, .int .i64 a0_3, .int .i64 a0_4, .string a0_5] 24 (0, 0)) (by (with_reducible repeat (first | refine kN_ ?_ _ | refine kD_ ?_ | refine kA_ ?_ _)); exact BK350.out) hb); have n1_ := As_.mk (bT_ (by repeat (first | (with_reducible first | exact HB.out | apply bA_ | apply bN_ | apply b1_ | refine bS_ ?_ GE350.out) | exact HB.out)) hb); clear BK350; clear HB; have BK350 := n0_; have HB := n1_; clear n0_ n1_))
  repeat (go_quiet (first | ((with_reducible refine gate_dst (N := 1) rfl ?_); refine box_event ?hg (N := 1) ?hd (cs := #[.int .i64 a0_0, .int .i64 a0_1, .int .i64 a0_2, .int .i64 a0_3, .int .i64 a0_4, .string a0_5]) (t := 24) ?hr ?_; (case hd => rfl); (case hg => rfl); (case hr => first | (go_simp; done) | (go_simp; rfl)); intro gb350 hg w6 hbox hb; have n0_ := As_.mk (bT_ (by repeat (first | (with_reducible first | exact HB.out | apply bA_ | apply bN_ | apply b1_) | exact HB.out)) hb); have n1_ := As_.mk (hbox); have n2_ := As_.mk ((by rw [hg]; exact (bY_ (by repeat (first | (with_reducible first | exact HB.out | apply bA_ | apply bN_ | apply b1_) | exact HB.out))) : w.heap.size ≤ gb350)); have n3_ := As_.mk ((by rw [hg]; exact (bY_ (by repeat (first | (with_reducible first | exact HB.out | apply bA_ | apply bN_ | apply b1_) | exact HB.out))) : w.heap.size ≤ gb350)); clear HB; have HB := n0_; have BK350 := n1_; have GW350 := n2_; have GE350 := n3_; clear n0_ n1_ n2_ n3_; clear hb hbox hg; have hcz7_0 : w6.cell? ⟨gb350, 0, none⟩ = some (.int .i64 a0_0) := (bC_ BK350.out 0).trans rfl; have hcz7_1 : w6.cell? ⟨gb350, 1, none⟩ = some (.int .i64 a0_1) := (bC_ BK350.out 1).trans rfl; have hcz7_2 : w6.cell? ⟨gb350, 2, none⟩ = some (.int .i64 a0_2) := (bC_ BK350.out 2).trans rfl; have hcz7_3 : w6.cell? ⟨gb350, 3, none⟩ = some (.int .i64 a0_3) := (bC_ BK350.out 3).trans rfl; have hcz7_4 : w6.cell? ⟨gb350, 4, none⟩ = some (.int .i64 a0_4) := (bC_ BK350.out 4).trans rfl; have hcz7_5 : w6.cell? ⟨gb350, 5, none⟩ = some (.string a0_5) := (bC_ BK350.out 5).trans rfl; have hfz7_0 := bZ_ BK350.out 0; have hfz7_1 := bZ_ BK350.out 1; have hfz7_2 := bZ_ BK350.out 2; have hfz7_3 := bZ_ BK350.out 3; have hfz7_4 := bZ_ BK350.out 4; have hfz7_5 := bZ_ BK350.out 5) | (go_at_call 66; (with_reducible refine (r3_Valid.calls a0_0 true _ A2.out).mono ?_); rintro e w' ⟨rfl, ⟨nd, rfl⟩⟩; (try first | exact ⟨rfl, _, World.drewN_drewN _ _ _⟩ | exact ⟨rfl, _, Eq.trans (World.drewN_drewN _ _ _) (congrArg (World.drewN _) (Nat.add_assoc _ _ _))⟩)) | (go_at_call 15; (with_reducible refine (r3_Form.calls a0_0 t352 _ A4.out).mono ?_); rintro e w8 ⟨rfl, hb⟩; have n0_ := As_.mk (kB_ (g := gb350) (o := .cells #[.int .i64 a0_0, .int .i64 a0_1, .int .i64 a0_2, .int .i64 a0_3, .int .i64 a0_4, .string a0_5] 24 (0, 0)) (by (with_reducible repeat (first | refine kN_ ?_ _ | refine kD_ ?_ | refine kA_ ?_ _)); exact BK350.out) hb); have n1_ := As_.mk (bT_ (by repeat (first | (with_reducible first | exact HB.out | apply bA_ | apply bN_ | apply b1_ | refine bS_ ?_ GE350.out) | exact HB.out)) hb); clear BK350; clear HB; have BK350 := n0_; have HB := n1_; clear n0_ n1_)); go_upto_region 4 with (first | ((with_reducible refine gate_dst (N := 1) rfl ?_); refine box_event ?hg (N := 1) ?hd (cs := #[.int .i64 a0_0, .int .i64 a0_1, .int .i64 a0_2, .int .i64 a0_3, .int .i64 a0_4, .string a0_5]) (t := 24) ?hr ?_; (case hd => rfl); (case hg => rfl); (case hr => first | (go_simp; done) | (go_simp; rfl)); intro gb350 hg w6 hbox hb; have n0_ := As_.mk (bT_ (by repeat (first | (with_reducible first | exact HB.out | apply bA_ | apply bN_ | apply b1_) | exact HB.out)) hb); have n1_ := As_.mk (hbox); have n2_ := As_.mk ((by rw [hg]; exact (bY_ (by repeat (first | (with_reducible first | exact HB.out | apply bA_ | apply bN_ | apply b1_) | exact HB.out))) : w.heap.size ≤ gb350)); have n3_ := As_.mk ((by rw [hg]; exact (bY_ (by repeat (first | (with_reducible first | exact HB.out | apply bA_ | apply bN_ | apply b1_) | exact HB.out))) : w.heap.size ≤ gb350)); clear HB; have HB := n0_; have BK350 := n1_; have GW350 := n2_; have GE350 := n3_; clear n0_ n1_ n2_ n3_; clear hb hbox hg; have hcz7_0 : w6.cell? ⟨gb350, 0, none⟩ = some (.int .i64 a0_0) := (bC_ BK350.out 0).trans rfl; have hcz7_1 : w6.cell? ⟨gb350, 1, none⟩ = some (.int .i64 a0_1) := (bC_ BK350.out 1).trans rfl; have hcz7_2 : w6.cell? ⟨gb350, 2, none⟩ = some (.int .i64 a0_2) := (bC_ BK350.out 2).trans rfl; have hcz7_3 : w6.cell? ⟨gb350, 3, none⟩ = some (.int .i64 a0_3) := (bC_ BK350.out 3).trans rfl; have hcz7_4 : w6.cell? ⟨gb350, 4, none⟩ = some (.int .i64 a0_4) := (bC_ BK350.out 4).trans rfl; have hcz7_5 : w6.cell? ⟨gb350, 5, none⟩ = some (.string a0_5) := (bC_ BK350.out 5).trans rfl; have hfz7_0 := bZ_ BK350.out 0; have hfz7_1 := bZ_ BK350.out 1; have hfz7_2 := bZ_ BK350.out 2; have hfz7_3 := bZ_ BK350.out 3; have hfz7_4 := bZ_ BK350.out 4; have hfz7_5 := bZ_ BK350.out 5) | (go_at_call 66; (with_reducible refine (r3_Valid.calls a0_0 true _ A2.out).mono ?_); rintro e w' ⟨rfl, ⟨nd, rfl⟩⟩; (try first | exact ⟨rfl, _, World.drewN_drewN _ _ _⟩ | exact ⟨rfl, _, Eq.trans (World.drewN_drewN _ _ _) (congrArg (World.drewN _) (Nat.add_assoc _ _ _))⟩)) | (go_at_call 15; (with_reducible refine (r3_Form.calls a0_0 t352 _ A4.out).mono ?_); rintro e w8 ⟨rfl, hb⟩; have n0_ := As_.mk (kB_ (g := gb350) (o := .cells #[.int .i64 a0_0, .int .i64 a0_1, .int .i64 a0_2, .int .i64 a0_3, .int .i64 a0_4, .string a0_5] 24 (0, 0)) (by (with_reducible repeat (first | refine kN_ ?_ _ | refine kD_ ?_ | refine kA_ ?_ _)); exact BK350.out) hb); have n1_ := As_.mk (bT_ (by repeat (first | (with_reducible first | exact HB.out | apply bA_ | apply bN_ | apply b1_ | refine bS_ ?_ GE350.out) | exact HB.out)) hb); clear BK350; clear HB; have BK350 := n0_; have HB := n1_; clear n0_ n1_)))
  (try simp only [Act.put, List.setIfInBounds_toArray, List.set_cons_zero, List.set_cons_succ])
  go_cut [32] (fun v32 wc => ∃ (kq : Nat) (x32_4 : Bool), v32 = .bool x32_4 ∧ As_ (r3_Ins.j0 kq t352 x32_4 a0_0 a0_1 a0_2 a0_3 a0_4 a0_5 = some r) ∧ As_ (kq ≤ k) ∧ As_ (wc.heap[gb350]? = some (.cells #[.int .i64 a0_0, .int .i64 a0_1, .int .i64 a0_2, .int .i64 a0_3, .int .i64 a0_4, .string a0_5] 24 (0, 0))) ∧ As_ (Below w.heap.size w wc))
  case first =>
   have H := HC5.out
   clear HC5
   replace H := Option.bind_eq_some_iff.mp H
   obtain ⟨t353, A90, H⟩ := H
   replace H : ((r3_reg.f a0_1 t353).bind fun t354 => (if t354 = true then ((r3_HasA.f t352).bind fun t355 => ((r3_reg.f a0_2 t355).bind fun t356 => (if t356 = true then ((r3_HasB.f t352).bind fun t357 => ((r3_reg.f a0_3 t357).bind fun t358 => (r3_Ins.j0 k t352 (!t358) a0_0 a0_1 a0_2 a0_3 a0_4 a0_5))) else (r3_Ins.j0 k t352 true a0_0 a0_1 a0_2 a0_3 a0_4 a0_5)))) else (r3_Ins.j0 k t352 true a0_0 a0_1 a0_2 a0_3 a0_4 a0_5))) = some r := H
   have A9 := As_.mk A90
   clear A90
   replace H := Option.bind_eq_some_iff.mp H
   obtain ⟨t354, A100, H⟩ := H
   replace H : (if t354 = true then ((r3_HasA.f t352).bind fun t355 => ((r3_reg.f a0_2 t355).bind fun t356 => (if t356 = true then ((r3_HasB.f t352).bind fun t357 => ((r3_reg.f a0_3 t357).bind fun t358 => (r3_Ins.j0 k t352 (!t358) a0_0 a0_1 a0_2 a0_3 a0_4 a0_5))) else (r3_Ins.j0 k t352 true a0_0 a0_1 a0_2 a0_3 a0_4 a0_5)))) else (r3_Ins.j0 k t352 true a0_0 a0_1 a0_2 a0_3 a0_4 a0_5)) = some r := H
   have A10 := As_.mk A100
   clear A100
   by_cases c11 : t354 = true
   ·subst c11
    have H1 : ((r3_HasA.f t352).bind fun t355 => ((r3_reg.f a0_2 t355).bind fun t356 => (if t356 = true then ((r3_HasB.f t352).bind fun t357 => ((r3_reg.f a0_3 t357).bind fun t358 => (r3_Ins.j0 k t352 (!t358) a0_0 a0_1 a0_2 a0_3 a0_4 a0_5))) else (r3_Ins.j0 k t352 true a0_0 a0_1 a0_2 a0_3 a0_4 a0_5)))) = some r := by rw [if_pos rfl] at H; exact H
    clear H
    have H := H1
    clear H1
    replace H := Option.bind_eq_some_iff.mp H
    obtain ⟨t355, A120, H⟩ := H
    replace H : ((r3_reg.f a0_2 t355).bind fun t356 => (if t356 = true then ((r3_HasB.f t352).bind fun t357 => ((r3_reg.f a0_3 t357).bind fun t358 => (r3_Ins.j0 k t352 (!t358) a0_0 a0_1 a0_2 a0_3 a0_4 a0_5))) else (r3_Ins.j0 k t352 true a0_0 a0_1 a0_2 a0_3 a0_4 a0_5))) = some r := H
    have A12 := As_.mk A120
    clear A120
    replace H := Option.bind_eq_some_iff.mp H
    obtain ⟨t356, A130, H⟩ := H
    replace H : (if t356 = true then ((r3_HasB.f t352).bind fun t357 => ((r3_reg.f a0_3 t357).bind fun t358 => (r3_Ins.j0 k t352 (!t358) a0_0 a0_1 a0_2 a0_3 a0_4 a0_5))) else (r3_Ins.j0 k t352 true a0_0 a0_1 a0_2 a0_3 a0_4 a0_5)) = some r := H
    have A13 := As_.mk A130
    clear A130
    by_cases c14 : t356 = true
    ·subst c14
     have H1 : ((r3_HasB.f t352).bind fun t357 => ((r3_reg.f a0_3 t357).bind fun t358 => (r3_Ins.j0 k t352 (!t358) a0_0 a0_1 a0_2 a0_3 a0_4 a0_5))) = some r := by rw [if_pos rfl] at H; exact H
     clear H
     have H := H1
     clear H1
     replace H := Option.bind_eq_some_iff.mp H
     obtain ⟨t357, A150, H⟩ := H
     replace H : ((r3_reg.f a0_3 t357).bind fun t358 => (r3_Ins.j0 k t352 (!t358) a0_0 a0_1 a0_2 a0_3 a0_4 a0_5)) = some r := H
     have A15 := As_.mk A150
     clear A150
     replace H := Option.bind_eq_some_iff.mp H
     obtain ⟨t358, A160, H⟩ := H
     replace H : (r3_Ins.j0 k t352 (!t358) a0_0 a0_1 a0_2 a0_3 a0_4 a0_5) = some r := H
     have A16 := As_.mk A160
     clear A160
     have H' := As_.mk H
     clear H
     have hcz17_0 : w8.cell? ⟨gb350, 0, none⟩ = some (.int .i64 a0_0) := (bC_ BK350.out 0).trans rfl
     have hcz17_1 : w8.cell? ⟨gb350, 1, none⟩ = some (.int .i64 a0_1) := (bC_ BK350.out 1).trans rfl
     have hcz17_2 : w8.cell? ⟨gb350, 2, none⟩ = some (.int .i64 a0_2) := (bC_ BK350.out 2).trans rfl
     have hcz17_3 : w8.cell? ⟨gb350, 3, none⟩ = some (.int .i64 a0_3) := (bC_ BK350.out 3).trans rfl
     have hcz17_4 : w8.cell? ⟨gb350, 4, none⟩ = some (.int .i64 a0_4) := (bC_ BK350.out 4).trans rfl
     have hcz17_5 : w8.cell? ⟨gb350, 5, none⟩ = some (.string a0_5) := (bC_ BK350.out 5).trans rfl
     have hfz17_0 := bZ_ BK350.out 0
     have hfz17_1 := bZ_ BK350.out 1
     have hfz17_2 := bZ_ BK350.out 2
     have hfz17_3 := bZ_ BK350.out 3
     have hfz17_4 := bZ_ BK350.out 4
     have hfz17_5 := bZ_ BK350.out 5
     go_wp2_with (first | (go_at_call 16; (with_reducible refine (r3_HasD.calls t352 t353 _ A9.out).mono ?_); rintro e w' ⟨rfl, ⟨nd, rfl⟩⟩; (try first | exact ⟨rfl, _, World.drewN_drewN _ _ _⟩ | exact ⟨rfl, _, Eq.trans (World.drewN_drewN _ _ _) (congrArg (World.drewN _) (Nat.add_assoc _ _ _))⟩)) | (go_at_call 67; (with_reducible refine (r3_reg.calls a0_1 t353 true _ A10.out).mono ?_); rintro e w' ⟨rfl, ⟨nd, rfl⟩⟩; (try first | exact ⟨rfl, _, World.drewN_drewN _ _ _⟩ | exact ⟨rfl, _, Eq.trans (World.drewN_drewN _ _ _) (congrArg (World.drewN _) (Nat.add_assoc _ _ _))⟩)) | (go_at_call 17; (with_reducible refine (r3_HasA.calls t352 t355 _ A12.out).mono ?_); rintro e w' ⟨rfl, ⟨nd, rfl⟩⟩; (try first | exact ⟨rfl, _, World.drewN_drewN _ _ _⟩ | exact ⟨rfl, _, Eq.trans (World.drewN_drewN _ _ _) (congrArg (World.drewN _) (Nat.add_assoc _ _ _))⟩)) | (go_at_call 67; (with_reducible refine (r3_reg.calls a0_2 t355 true _ A13.out).mono ?_); rintro e w' ⟨rfl, ⟨nd, rfl⟩⟩; (try first | exact ⟨rfl, _, World.drewN_drewN _ _ _⟩ | exact ⟨rfl, _, Eq.trans (World.drewN_drewN _ _ _) (congrArg (World.drewN _) (Nat.add_assoc _ _ _))⟩)) | (go_at_call 18; (with_reducible refine (r3_HasB.calls t352 t357 _ A15.out).mono ?_); rintro e w' ⟨rfl, ⟨nd, rfl⟩⟩; (try first | exact ⟨rfl, _, World.drewN_drewN _ _ _⟩ | exact ⟨rfl, _, Eq.trans (World.drewN_drewN _ _ _) (congrArg (World.drewN _) (Nat.add_assoc _ _ _))⟩)) | (go_at_call 67; (with_reducible refine (r3_reg.calls a0_3 t357 t358 _ A16.out).mono ?_); rintro e w' ⟨rfl, ⟨nd, rfl⟩⟩; (try first | exact ⟨rfl, _, World.drewN_drewN _ _ _⟩ | exact ⟨rfl, _, Eq.trans (World.drewN_drewN _ _ _) (congrArg (World.drewN _) (Nat.add_assoc _ _ _))⟩)))
     repeat (go_quiet (first | (go_at_call 16; (with_reducible refine (r3_HasD.calls t352 t353 _ A9.out).mono ?_); rintro e w' ⟨rfl, ⟨nd, rfl⟩⟩; (try first | exact ⟨rfl, _, World.drewN_drewN _ _ _⟩ | exact ⟨rfl, _, Eq.trans (World.drewN_drewN _ _ _) (congrArg (World.drewN _) (Nat.add_assoc _ _ _))⟩)) | (go_at_call 67; (with_reducible refine (r3_reg.calls a0_1 t353 true _ A10.out).mono ?_); rintro e w' ⟨rfl, ⟨nd, rfl⟩⟩; (try first | exact ⟨rfl, _, World.drewN_drewN _ _ _⟩ | exact ⟨rfl, _, Eq.trans (World.drewN_drewN _ _ _) (congrArg (World.drewN _) (Nat.add_assoc _ _ _))⟩)) | (go_at_call 17; (with_reducible refine (r3_HasA.calls t352 t355 _ A12.out).mono ?_); rintro e w' ⟨rfl, ⟨nd, rfl⟩⟩; (try first | exact ⟨rfl, _, World.drewN_drewN _ _ _⟩ | exact ⟨rfl, _, Eq.trans (World.drewN_drewN _ _ _) (congrArg (World.drewN _) (Nat.add_assoc _ _ _))⟩)) | (go_at_call 67; (with_reducible refine (r3_reg.calls a0_2 t355 true _ A13.out).mono ?_); rintro e w' ⟨rfl, ⟨nd, rfl⟩⟩; (try first | exact ⟨rfl, _, World.drewN_drewN _ _ _⟩ | exact ⟨rfl, _, Eq.trans (World.drewN_drewN _ _ _) (congrArg (World.drewN _) (Nat.add_assoc _ _ _))⟩)) | (go_at_call 18; (with_reducible refine (r3_HasB.calls t352 t357 _ A15.out).mono ?_); rintro e w' ⟨rfl, ⟨nd, rfl⟩⟩; (try first | exact ⟨rfl, _, World.drewN_drewN _ _ _⟩ | exact ⟨rfl, _, Eq.trans (World.drewN_drewN _ _ _) (congrArg (World.drewN _) (Nat.add_assoc _ _ _))⟩)) | (go_at_call 67; (with_reducible refine (r3_reg.calls a0_3 t357 t358 _ A16.out).mono ?_); rintro e w' ⟨rfl, ⟨nd, rfl⟩⟩; (try first | exact ⟨rfl, _, World.drewN_drewN _ _ _⟩ | exact ⟨rfl, _, Eq.trans (World.drewN_drewN _ _ _) (congrArg (World.drewN _) (Nat.add_assoc _ _ _))⟩))); try go_wp2_with (first | (go_at_call 16; (with_reducible refine (r3_HasD.calls t352 t353 _ A9.out).mono ?_); rintro e w' ⟨rfl, ⟨nd, rfl⟩⟩; (try first | exact ⟨rfl, _, World.drewN_drewN _ _ _⟩ | exact ⟨rfl, _, Eq.trans (World.drewN_drewN _ _ _) (congrArg (World.drewN _) (Nat.add_assoc _ _ _))⟩)) | (go_at_call 67; (with_reducible refine (r3_reg.calls a0_1 t353 true _ A10.out).mono ?_); rintro e w' ⟨rfl, ⟨nd, rfl⟩⟩; (try first | exact ⟨rfl, _, World.drewN_drewN _ _ _⟩ | exact ⟨rfl, _, Eq.trans (World.drewN_drewN _ _ _) (congrArg (World.drewN _) (Nat.add_assoc _ _ _))⟩)) | (go_at_call 17; (with_reducible refine (r3_HasA.calls t352 t355 _ A12.out).mono ?_); rintro e w' ⟨rfl, ⟨nd, rfl⟩⟩; (try first | exact ⟨rfl, _, World.drewN_drewN _ _ _⟩ | exact ⟨rfl, _, Eq.trans (World.drewN_drewN _ _ _) (congrArg (World.drewN _) (Nat.add_assoc _ _ _))⟩)) | (go_at_call 67; (with_reducible refine (r3_reg.calls a0_2 t355 true _ A13.out).mono ?_); rintro e w' ⟨rfl, ⟨nd, rfl⟩⟩; (try first | exact ⟨rfl, _, World.drewN_drewN _ _ _⟩ | exact ⟨rfl, _, Eq.trans (World.drewN_drewN _ _ _) (congrArg (World.drewN _) (Nat.add_assoc _ _ _))⟩)) | (go_at_call 18; (with_reducible refine (r3_HasB.calls t352 t357 _ A15.out).mono ?_); rintro e w' ⟨rfl, ⟨nd, rfl⟩⟩; (try first | exact ⟨rfl, _, World.drewN_drewN _ _ _⟩ | exact ⟨rfl, _, Eq.trans (World.drewN_drewN _ _ _) (congrArg (World.drewN _) (Nat.add_assoc _ _ _))⟩)) | (go_at_call 67; (with_reducible refine (r3_reg.calls a0_3 t357 t358 _ A16.out).mono ?_); rintro e w' ⟨rfl, ⟨nd, rfl⟩⟩; (try first | exact ⟨rfl, _, World.drewN_drewN _ _ _⟩ | exact ⟨rfl, _, Eq.trans (World.drewN_drewN _ _ _) (congrArg (World.drewN _) (Nat.add_assoc _ _ _))⟩))))
     go_meet
     case rel => exact ⟨_, (!t358), (by first | rfl | (simp; done) | (simp [*]; done) | (simp [wrap64]; done) | (congr 1; rw [Bool.eq_iff_iff]; simp; done)), H', ⟨by first | omega | exact Nat.le_refl _⟩, ⟨by (with_reducible repeat (first | refine kN_ ?_ _ | refine kD_ ?_ | refine kA_ ?_ _)); exact BK350.out⟩, ⟨by repeat (first | (with_reducible first | exact HB.out | apply bA_ | apply bN_ | apply b1_ | refine bS_ ?_ GE350.out) | exact HB.out)⟩⟩
    replace c14 := Bool.eq_false_iff.mpr c14
    subst c14
    have H1 : (r3_Ins.j0 k t352 true a0_0 a0_1 a0_2 a0_3 a0_4 a0_5) = some r := by rw [if_neg (show ¬ (false = true) by decide)] at H; exact H
    clear H
    have H := H1
    clear H1
    have H' := As_.mk H
    clear H
    have hcz18_0 : w8.cell? ⟨gb350, 0, none⟩ = some (.int .i64 a0_0) := (bC_ BK350.out 0).trans rfl
    have hcz18_1 : w8.cell? ⟨gb350, 1, none⟩ = some (.int .i64 a0_1) := (bC_ BK350.out 1).trans rfl
    have hcz18_2 : w8.cell? ⟨gb350, 2, none⟩ = some (.int .i64 a0_2) := (bC_ BK350.out 2).trans rfl
    have hcz18_3 : w8.cell? ⟨gb350, 3, none⟩ = some (.int .i64 a0_3) := (bC_ BK350.out 3).trans rfl
    have hcz18_4 : w8.cell? ⟨gb350, 4, none⟩ = some (.int .i64 a0_4) := (bC_ BK350.out 4).trans rfl
    have hcz18_5 : w8.cell? ⟨gb350, 5, none⟩ = some (.string a0_5) := (bC_ BK350.out 5).trans rfl
    have hfz18_0 := bZ_ BK350.out 0
    have hfz18_1 := bZ_ BK350.out 1
    have hfz18_2 := bZ_ BK350.out 2
    have hfz18_3 := bZ_ BK350.out 3
    have hfz18_4 := bZ_ BK350.out 4
    have hfz18_5 := bZ_ BK350.out 5
    go_wp2_with (first | (go_at_call 16; (with_reducible refine (r3_HasD.calls t352 t353 _ A9.out).mono ?_); rintro e w' ⟨rfl, ⟨nd, rfl⟩⟩; (try first | exact ⟨rfl, _, World.drewN_drewN _ _ _⟩ | exact ⟨rfl, _, Eq.trans (World.drewN_drewN _ _ _) (congrArg (World.drewN _) (Nat.add_assoc _ _ _))⟩)) | (go_at_call 67; (with_reducible refine (r3_reg.calls a0_1 t353 true _ A10.out).mono ?_); rintro e w' ⟨rfl, ⟨nd, rfl⟩⟩; (try first | exact ⟨rfl, _, World.drewN_drewN _ _ _⟩ | exact ⟨rfl, _, Eq.trans (World.drewN_drewN _ _ _) (congrArg (World.drewN _) (Nat.add_assoc _ _ _))⟩)) | (go_at_call 17; (with_reducible refine (r3_HasA.calls t352 t355 _ A12.out).mono ?_); rintro e w' ⟨rfl, ⟨nd, rfl⟩⟩; (try first | exact ⟨rfl, _, World.drewN_drewN _ _ _⟩ | exact ⟨rfl, _, Eq.trans (World.drewN_drewN _ _ _) (congrArg (World.drewN _) (Nat.add_assoc _ _ _))⟩)) | (go_at_call 67; (with_reducible refine (r3_reg.calls a0_2 t355 false _ A13.out).mono ?_); rintro e w' ⟨rfl, ⟨nd, rfl⟩⟩; (try first | exact ⟨rfl, _, World.drewN_drewN _ _ _⟩ | exact ⟨rfl, _, Eq.trans (World.drewN_drewN _ _ _) (congrArg (World.drewN _) (Nat.add_assoc _ _ _))⟩)))
    repeat (go_quiet (first | (go_at_call 16; (with_reducible refine (r3_HasD.calls t352 t353 _ A9.out).mono ?_); rintro e w' ⟨rfl, ⟨nd, rfl⟩⟩; (try first | exact ⟨rfl, _, World.drewN_drewN _ _ _⟩ | exact ⟨rfl, _, Eq.trans (World.drewN_drewN _ _ _) (congrArg (World.drewN _) (Nat.add_assoc _ _ _))⟩)) | (go_at_call 67; (with_reducible refine (r3_reg.calls a0_1 t353 true _ A10.out).mono ?_); rintro e w' ⟨rfl, ⟨nd, rfl⟩⟩; (try first | exact ⟨rfl, _, World.drewN_drewN _ _ _⟩ | exact ⟨rfl, _, Eq.trans (World.drewN_drewN _ _ _) (congrArg (World.drewN _) (Nat.add_assoc _ _ _))⟩)) | (go_at_call 17; (with_reducible refine (r3_HasA.calls t352 t355 _ A12.out).mono ?_); rintro e w' ⟨rfl, ⟨nd, rfl⟩⟩; (try first | exact ⟨rfl, _, World.drewN_drewN _ _ _⟩ | exact ⟨rfl, _, Eq.trans (World.drewN_drewN _ _ _) (congrArg (World.drewN _) (Nat.add_assoc _ _ _))⟩)) | (go_at_call 67; (with_reducible refine (r3_reg.calls a0_2 t355 false _ A13.out).mono ?_); rintro e w' ⟨rfl, ⟨nd, rfl⟩⟩; (try first | exact ⟨rfl, _, World.drewN_drewN _ _ _⟩ | exact ⟨rfl, _, Eq.trans (World.drewN_drewN _ _ _) (congrArg (World.drewN _) (Nat.add_assoc _ _ _))⟩))); try go_wp2_with (first | (go_at_call 16; (with_reducible refine (r3_HasD.calls t352 t353 _ A9.out).mono ?_); rintro e w' ⟨rfl, ⟨nd, rfl⟩⟩; (try first | exact ⟨rfl, _, World.drewN_drewN _ _ _⟩ | exact ⟨rfl, _, Eq.trans (World.drewN_drewN _ _ _) (congrArg (World.drewN _) (Nat.add_assoc _ _ _))⟩)) | (go_at_call 67; (with_reducible refine (r3_reg.calls a0_1 t353 true _ A10.out).mono ?_); rintro e w' ⟨rfl, ⟨nd, rfl⟩⟩; (try first | exact ⟨rfl, _, World.drewN_drewN _ _ _⟩ | exact ⟨rfl, _, Eq.trans (World.drewN_drewN _ _ _) (congrArg (World.drewN _) (Nat.add_assoc _ _ _))⟩)) | (go_at_call 17; (with_reducible refine (r3_HasA.calls t352 t355 _ A12.out).mono ?_); rintro e w' ⟨rfl, ⟨nd, rfl⟩⟩; (try first | exact ⟨rfl, _, World.drewN_drewN _ _ _⟩ | exact ⟨rfl, _, Eq.trans (World.drewN_drewN _ _ _) (congrArg (World.drewN _) (Nat.add_assoc _ _ _))⟩)) | (go_at_call 67; (with_reducible refine (r3_reg.calls a0_2 t355 false _ A13.out).mono ?_); rintro e w' ⟨rfl, ⟨nd, rfl⟩⟩; (try first | exact ⟨rfl, _, World.drewN_drewN _ _ _⟩ | exact ⟨rfl, _, Eq.trans (World.drewN_drewN _ _ _) (congrArg (World.drewN _) (Nat.add_assoc _ _ _))⟩))))
    go_meet
    case rel => exact ⟨_, (true), (by first | rfl | (simp; done) | (simp [*]; done) | (simp [wrap64]; done) | (congr 1; rw [Bool.eq_iff_iff]; simp; done)), H', ⟨by first | omega | exact Nat.le_refl _⟩, ⟨by (with_reducible repeat (first | refine kN_ ?_ _ | refine kD_ ?_ | refine kA_ ?_ _)); exact BK350.out⟩, ⟨by repeat (first | (with_reducible first | exact HB.out | apply bA_ | apply bN_ | apply b1_ | refine bS_ ?_ GE350.out) | exact HB.out)⟩⟩
   replace c11 := Bool.eq_false_iff.mpr c11
   subst c11
   have H1 : (r3_Ins.j0 k t352 true a0_0 a0_1 a0_2 a0_3 a0_4 a0_5) = some r := by rw [if_neg (show ¬ (false = true) by decide)] at H; exact H
   clear H
   have H := H1
   clear H1
   have H' := As_.mk H
   clear H
   have hcz19_0 : w8.cell? ⟨gb350, 0, none⟩ = some (.int .i64 a0_0) := (bC_ BK350.out 0).trans rfl
   have hcz19_1 : w8.cell? ⟨gb350, 1, none⟩ = some (.int .i64 a0_1) := (bC_ BK350.out 1).trans rfl
   have hcz19_2 : w8.cell? ⟨gb350, 2, none⟩ = some (.int .i64 a0_2) := (bC_ BK350.out 2).trans rfl
   have hcz19_3 : w8.cell? ⟨gb350, 3, none⟩ = some (.int .i64 a0_3) := (bC_ BK350.out 3).trans rfl
   have hcz19_4 : w8.cell? ⟨gb350, 4, none⟩ = some (.int .i64 a0_4) := (bC_ BK350.out 4).trans rfl
   have hcz19_5 : w8.cell? ⟨gb350, 5, none⟩ = some (.string a0_5) := (bC_ BK350.out 5).trans rfl
   have hfz19_0 := bZ_ BK350.out 0
   have hfz19_1 := bZ_ BK350.out 1
   have hfz19_2 := bZ_ BK350.out 2
   have hfz19_3 := bZ_ BK350.out 3
   have hfz19_4 := bZ_ BK350.out 4
   have hfz19_5 := bZ_ BK350.out 5
   go_wp2_with (first | (go_at_call 16; (with_reducible refine (r3_HasD.calls t352 t353 _ A9.out).mono ?_); rintro e w' ⟨rfl, ⟨nd, rfl⟩⟩; (try first | exact ⟨rfl, _, World.drewN_drewN _ _ _⟩ | exact ⟨rfl, _, Eq.trans (World.drewN_drewN _ _ _) (congrArg (World.drewN _) (Nat.add_assoc _ _ _))⟩)) | (go_at_call 67; (with_reducible refine (r3_reg.calls a0_1 t353 false _ A10.out).mono ?_); rintro e w' ⟨rfl, ⟨nd, rfl⟩⟩; (try first | exact ⟨rfl, _, World.drewN_drewN _ _ _⟩ | exact ⟨rfl, _, Eq.trans (World.drewN_drewN _ _ _) (congrArg (World.drewN _) (Nat.add_assoc _ _ _))⟩)))
   repeat (go_quiet (first | (go_at_call 16; (with_reducible refine (r3_HasD.calls t352 t353 _ A9.out).mono ?_); rintro e w' ⟨rfl, ⟨nd, rfl⟩⟩; (try first | exact ⟨rfl, _, World.drewN_drewN _ _ _⟩ | exact ⟨rfl, _, Eq.trans (World.drewN_drewN _ _ _) (congrArg (World.drewN _) (Nat.add_assoc _ _ _))⟩)) | (go_at_call 67; (with_reducible refine (r3_reg.calls a0_1 t353 false _ A10.out).mono ?_); rintro e w' ⟨rfl, ⟨nd, rfl⟩⟩; (try first | exact ⟨rfl, _, World.drewN_drewN _ _ _⟩ | exact ⟨rfl, _, Eq.trans (World.drewN_drewN _ _ _) (congrArg (World.drewN _) (Nat.add_assoc _ _ _))⟩))); try go_wp2_with (first | (go_at_call 16; (with_reducible refine (r3_HasD.calls t352 t353 _ A9.out).mono ?_); rintro e w' ⟨rfl, ⟨nd, rfl⟩⟩; (try first | exact ⟨rfl, _, World.drewN_drewN _ _ _⟩ | exact ⟨rfl, _, Eq.trans (World.drewN_drewN _ _ _) (congrArg (World.drewN _) (Nat.add_assoc _ _ _))⟩)) | (go_at_call 67; (with_reducible refine (r3_reg.calls a0_1 t353 false _ A10.out).mono ?_); rintro e w' ⟨rfl, ⟨nd, rfl⟩⟩; (try first | exact ⟨rfl, _, World.drewN_drewN _ _ _⟩ | exact ⟨rfl, _, Eq.trans (World.drewN_drewN _ _ _) (congrArg (World.drewN _) (Nat.add_assoc _ _ _))⟩))))
   go_meet
   case rel => exact ⟨_, (true), (by first | rfl | (simp; done) | (simp [*]; done) | (simp [wrap64]; done) | (congr 1; rw [Bool.eq_iff_iff]; simp; done)), H', ⟨by first | omega | exact Nat.le_refl _⟩, ⟨by (with_reducible repeat (first | refine kN_ ?_ _ | refine kD_ ?_ | refine kA_ ?_ _)); exact BK350.out⟩, ⟨by repeat (first | (with_reducible first | exact HB.out | apply bA_ | apply bN_ | apply b1_ | refine bS_ ?_ GE350.out) | exact HB.out)⟩⟩
  case rest =>
   clear HC5
   obtain ⟨kq, x32_4, rfl, HA, HJ4, BK350, HB⟩ := hcut
   cases kq with
   | zero => exact absurd HA.out (by simp [r3_Ins.j0])
   | succ kj4 =>
    have H := HA.out
    clear HA
    simp only [r3_Ins.j0] at H
    by_cases c20 : x32_4 = true
    ·subst c20
     have H1 : (some false) = some r := by rw [if_pos rfl] at H; exact H
     clear H
     have H := H1
     clear H1
     obtain rfl := Option.some.inj H
     go_wp2
     repeat (go_quiet (fail); try go_wp2)
     go_ret
     exact ⟨by first | rfl | (simp [eN_, eS_] <;> rfl) | (simp [*, eN_, eS_] <;> rfl), by repeat (first | (with_reducible first | exact HB.out | apply bA_ | apply bN_ | apply b1_ | refine bS_ ?_ GE350.out) | exact HB.out)⟩
    replace c20 := Bool.eq_false_iff.mpr c20
    subst c20
    have H1 : (if a0_5.toList = ([] : List UInt8) then ((r3_Target.f t352).bind fun t363 => (if t363 = true then ((r0_Num.f a0_4 1023).bind fun t364 => (some t364)) else ((r3_Bits.f kj4 t352).bind fun t365 => (if t365 > 0 then ((r3_Bits.f kj4 t352).bind fun t366 => ((r1_Fits.f a0_4 t365).bind fun t367 => (some t367))) else (some (a0_4 == 0)))))) else ((r3_Name.f kj4 a0_5).bind fun t359 => (if t359 = true then (if a0_0 = 23 then ((r1_Fits.f a0_4 18).bind fun t360 => (if t360 = true then (some true) else ((r3_Target.f t352).bind fun t361 => (if t361 = true then (some (a0_4 == 0)) else (some false))))) else ((r3_Target.f t352).bind fun t362 => (if t362 = true then (some (a0_4 == 0)) else (some false)))) else (some false)))) = some r := by rw [if_neg (show ¬ (false = true) by decide)] at H; exact H
    clear H
    have H := H1
    clear H1
    by_cases c21 : a0_5.toList = ([] : List UInt8)
    ·rw [if_pos c21] at H
     have c21b0 : (a0_5.toList == ([] : List UInt8)) = true := beq_iff_eq.mpr c21
     have c21b1 : (a0_5.toList != ([] : List UInt8)) = false := bne_eq_false_iff_eq.mpr c21
     clear c21
     replace H := Option.bind_eq_some_iff.mp H
     obtain ⟨t363, A220, H⟩ := H
     replace H : (if t363 = true then ((r0_Num.f a0_4 1023).bind fun t364 => (some t364)) else ((r3_Bits.f kj4 t352).bind fun t365 => (if t365 > 0 then ((r3_Bits.f kj4 t352).bind fun t366 => ((r1_Fits.f a0_4 t365).bind fun t367 => (some t367))) else (some (a0_4 == 0))))) = some r := H
     have A22 := As_.mk A220
     clear A220
     by_cases c23 : t363 = true
     ·subst c23
      have H1 : ((r0_Num.f a0_4 1023).bind fun t364 => (some t364)) = some r := by rw [if_pos rfl] at H; exact H
      clear H
      have H := H1
      clear H1
      replace H := Option.bind_eq_some_iff.mp H
      obtain ⟨t364, A240, H⟩ := H
      replace H : (some t364) = some r := H
      have A24 := As_.mk A240
      clear A240
      obtain rfl := Option.some.inj H
      have hcz25_0 : wc.cell? ⟨gb350, 0, none⟩ = some (.int .i64 a0_0) := (bC_ BK350.out 0).trans rfl
      have hcz25_1 : wc.cell? ⟨gb350, 1, none⟩ = some (.int .i64 a0_1) := (bC_ BK350.out 1).trans rfl
      have hcz25_2 : wc.cell? ⟨gb350, 2, none⟩ = some (.int .i64 a0_2) := (bC_ BK350.out 2).trans rfl
      have hcz25_3 : wc.cell? ⟨gb350, 3, none⟩ = some (.int .i64 a0_3) := (bC_ BK350.out 3).trans rfl
      have hcz25_4 : wc.cell? ⟨gb350, 4, none⟩ = some (.int .i64 a0_4) := (bC_ BK350.out 4).trans rfl
      have hcz25_5 : wc.cell? ⟨gb350, 5, none⟩ = some (.string a0_5) := (bC_ BK350.out 5).trans rfl
      have hfz25_0 := bZ_ BK350.out 0
      have hfz25_1 := bZ_ BK350.out 1
      have hfz25_2 := bZ_ BK350.out 2
      have hfz25_3 := bZ_ BK350.out 3
      have hfz25_4 := bZ_ BK350.out 4
      have hfz25_5 := bZ_ BK350.out 5
      go_wp2_with (first | (go_at_call 43; (with_reducible refine (r3_Target.calls t352 true _ A22.out).mono ?_); rintro e w' ⟨rfl, ⟨nd, rfl⟩⟩; (try first | exact ⟨rfl, _, World.drewN_drewN _ _ _⟩ | exact ⟨rfl, _, Eq.trans (World.drewN_drewN _ _ _) (congrArg (World.drewN _) (Nat.add_assoc _ _ _))⟩)) | (go_at_call 35; (with_reducible refine (r0_Num.calls a0_4 1023 t364 _ A24.out).mono ?_); rintro e w' ⟨rfl, ⟨nd, rfl⟩⟩; (try first | exact ⟨rfl, _, World.drewN_drewN _ _ _⟩ | exact ⟨rfl, _, Eq.trans (World.drewN_drewN _ _ _) (congrArg (World.drewN _) (Nat.add_assoc _ _ _))⟩)))
      repeat (go_quiet (first | (go_at_call 43; (with_reducible refine (r3_Target.calls t352 true _ A22.out).mono ?_); rintro e w' ⟨rfl, ⟨nd, rfl⟩⟩; (try first | exact ⟨rfl, _, World.drewN_drewN _ _ _⟩ | exact ⟨rfl, _, Eq.trans (World.drewN_drewN _ _ _) (congrArg (World.drewN _) (Nat.add_assoc _ _ _))⟩)) | (go_at_call 35; (with_reducible refine (r0_Num.calls a0_4 1023 t364 _ A24.out).mono ?_); rintro e w' ⟨rfl, ⟨nd, rfl⟩⟩; (try first | exact ⟨rfl, _, World.drewN_drewN _ _ _⟩ | exact ⟨rfl, _, Eq.trans (World.drewN_drewN _ _ _) (congrArg (World.drewN _) (Nat.add_assoc _ _ _))⟩))); try go_wp2_with (first | (go_at_call 43; (with_reducible refine (r3_Target.calls t352 true _ A22.out).mono ?_); rintro e w' ⟨rfl, ⟨nd, rfl⟩⟩; (try first | exact ⟨rfl, _, World.drewN_drewN _ _ _⟩ | exact ⟨rfl, _, Eq.trans (World.drewN_drewN _ _ _) (congrArg (World.drewN _) (Nat.add_assoc _ _ _))⟩)) | (go_at_call 35; (with_reducible refine (r0_Num.calls a0_4 1023 t364 _ A24.out).mono ?_); rintro e w' ⟨rfl, ⟨nd, rfl⟩⟩; (try first | exact ⟨rfl, _, World.drewN_drewN _ _ _⟩ | exact ⟨rfl, _, Eq.trans (World.drewN_drewN _ _ _) (congrArg (World.drewN _) (Nat.add_assoc _ _ _))⟩))))
      go_ret
      exact ⟨by first | rfl | (simp [eN_, eS_] <;> rfl) | (simp [*, eN_, eS_] <;> rfl), by repeat (first | (with_reducible first | exact HB.out | apply bA_ | apply bN_ | apply b1_ | refine bS_ ?_ GE350.out) | exact HB.out)⟩
     replace c23 := Bool.eq_false_iff.mpr c23
     subst c23
     have H1 : ((r3_Bits.f kj4 t352).bind fun t365 => (if t365 > 0 then ((r3_Bits.f kj4 t352).bind fun t366 => ((r1_Fits.f a0_4 t365).bind fun t367 => (some t367))) else (some (a0_4 == 0)))) = some r := by rw [if_neg (show ¬ (false = true) by decide)] at H; exact H
     clear H
     have H := H1
     clear H1
     replace H := Option.bind_eq_some_iff.mp H
     obtain ⟨t365, A260, H⟩ := H
     replace H : (if t365 > 0 then ((r3_Bits.f kj4 t352).bind fun t366 => ((r1_Fits.f a0_4 t365).bind fun t367 => (some t367))) else (some (a0_4 == 0))) = some r := H
     have A26 := As_.mk A260
     clear A260
     by_cases c27 : t365 > 0
     ·rw [if_pos c27] at H
      have c27b0 : decide (0 < t365) = true := decide_eq_true c27
      clear c27
      replace H := Option.bind_eq_some_iff.mp H
      obtain ⟨t366, A280, H⟩ := H
      replace H : ((r1_Fits.f a0_4 t365).bind fun t367 => (some t367)) = some r := H
      have A28 := As_.mk A280
      clear A280
      obtain rfl : t365 = t366 := Option.some.inj (A26.out.symm.trans A28.out)
      replace H := Option.bind_eq_some_iff.mp H
      obtain ⟨t367, A290, H⟩ := H
      replace H : (some t367) = some r := H
      have A29 := As_.mk A290
      clear A290
      obtain rfl := Option.some.inj H
      have hcz30_0 : wc.cell? ⟨gb350, 0, none⟩ = some (.int .i64 a0_0) := (bC_ BK350.out 0).trans rfl
      have hcz30_1 : wc.cell? ⟨gb350, 1, none⟩ = some (.int .i64 a0_1) := (bC_ BK350.out 1).trans rfl
      have hcz30_2 : wc.cell? ⟨gb350, 2, none⟩ = some (.int .i64 a0_2) := (bC_ BK350.out 2).trans rfl
      have hcz30_3 : wc.cell? ⟨gb350, 3, none⟩ = some (.int .i64 a0_3) := (bC_ BK350.out 3).trans rfl
      have hcz30_4 : wc.cell? ⟨gb350, 4, none⟩ = some (.int .i64 a0_4) := (bC_ BK350.out 4).trans rfl
      have hcz30_5 : wc.cell? ⟨gb350, 5, none⟩ = some (.string a0_5) := (bC_ BK350.out 5).trans rfl
      have hfz30_0 := bZ_ BK350.out 0
      have hfz30_1 := bZ_ BK350.out 1
      have hfz30_2 := bZ_ BK350.out 2
      have hfz30_3 := bZ_ BK350.out 3
      have hfz30_4 := bZ_ BK350.out 4
      have hfz30_5 := bZ_ BK350.out 5
      go_wp2_with (first | (go_at_call 43; (with_reducible refine (r3_Target.calls t352 false _ A22.out).mono ?_); rintro e w' ⟨rfl, ⟨nd, rfl⟩⟩; (try first | exact ⟨rfl, _, World.drewN_drewN _ _ _⟩ | exact ⟨rfl, _, Eq.trans (World.drewN_drewN _ _ _) (congrArg (World.drewN _) (Nat.add_assoc _ _ _))⟩)) | (go_at_call 70; (with_reducible refine (r3_Bits.calls kj4 t352 t365 _ A26.out).mono ?_); rintro e w' ⟨rfl, ⟨nd, rfl⟩⟩; (try first | exact ⟨rfl, _, World.drewN_drewN _ _ _⟩ | exact ⟨rfl, _, Eq.trans (World.drewN_drewN _ _ _) (congrArg (World.drewN _) (Nat.add_assoc _ _ _))⟩)) | (go_at_call 70; (with_reducible refine (r3_Bits.calls kj4 t352 t365 _ A28.out).mono ?_); rintro e w' ⟨rfl, ⟨nd, rfl⟩⟩; (try first | exact ⟨rfl, _, World.drewN_drewN _ _ _⟩ | exact ⟨rfl, _, Eq.trans (World.drewN_drewN _ _ _) (congrArg (World.drewN _) (Nat.add_assoc _ _ _))⟩)) | (go_at_call 69; (with_reducible refine (r1_Fits.calls a0_4 t365 t367 _ A29.out).mono ?_); rintro e w' ⟨rfl, ⟨nd, rfl⟩⟩; (try first | exact ⟨rfl, _, World.drewN_drewN _ _ _⟩ | exact ⟨rfl, _, Eq.trans (World.drewN_drewN _ _ _) (congrArg (World.drewN _) (Nat.add_assoc _ _ _))⟩)))
      repeat (go_quiet (first | (go_at_call 43; (with_reducible refine (r3_Target.calls t352 false _ A22.out).mono ?_); rintro e w' ⟨rfl, ⟨nd, rfl⟩⟩; (try first | exact ⟨rfl, _, World.drewN_drewN _ _ _⟩ | exact ⟨rfl, _, Eq.trans (World.drewN_drewN _ _ _) (congrArg (World.drewN _) (Nat.add_assoc _ _ _))⟩)) | (go_at_call 70; (with_reducible refine (r3_Bits.calls kj4 t352 t365 _ A26.out).mono ?_); rintro e w' ⟨rfl, ⟨nd, rfl⟩⟩; (try first | exact ⟨rfl, _, World.drewN_drewN _ _ _⟩ | exact ⟨rfl, _, Eq.trans (World.drewN_drewN _ _ _) (congrArg (World.drewN _) (Nat.add_assoc _ _ _))⟩)) | (go_at_call 70; (with_reducible refine (r3_Bits.calls kj4 t352 t365 _ A28.out).mono ?_); rintro e w' ⟨rfl, ⟨nd, rfl⟩⟩; (try first | exact ⟨rfl, _, World.drewN_drewN _ _ _⟩ | exact ⟨rfl, _, Eq.trans (World.drewN_drewN _ _ _) (congrArg (World.drewN _) (Nat.add_assoc _ _ _))⟩)) | (go_at_call 69; (with_reducible refine (r1_Fits.calls a0_4 t365 t367 _ A29.out).mono ?_); rintro e w' ⟨rfl, ⟨nd, rfl⟩⟩; (try first | exact ⟨rfl, _, World.drewN_drewN _ _ _⟩ | exact ⟨rfl, _, Eq.trans (World.drewN_drewN _ _ _) (congrArg (World.drewN _) (Nat.add_assoc _ _ _))⟩))); try go_wp2_with (first | (go_at_call 43; (with_reducible refine (r3_Target.calls t352 false _ A22.out).mono ?_); rintro e w' ⟨rfl, ⟨nd, rfl⟩⟩; (try first | exact ⟨rfl, _, World.drewN_drewN _ _ _⟩ | exact ⟨rfl, _, Eq.trans (World.drewN_drewN _ _ _) (congrArg (World.drewN _) (Nat.add_assoc _ _ _))⟩)) | (go_at_call 70; (with_reducible refine (r3_Bits.calls kj4 t352 t365 _ A26.out).mono ?_); rintro e w' ⟨rfl, ⟨nd, rfl⟩⟩; (try first | exact ⟨rfl, _, World.drewN_drewN _ _ _⟩ | exact ⟨rfl, _, Eq.trans (World.drewN_drewN _ _ _) (congrArg (World.drewN _) (Nat.add_assoc _ _ _))⟩)) | (go_at_call 70; (with_reducible refine (r3_Bits.calls kj4 t352 t365 _ A28.out).mono ?_); rintro e w' ⟨rfl, ⟨nd, rfl⟩⟩; (try first | exact ⟨rfl, _, World.drewN_drewN _ _ _⟩ | exact ⟨rfl, _, Eq.trans (World.drewN_drewN _ _ _) (congrArg (World.drewN _) (Nat.add_assoc _ _ _))⟩)) | (go_at_call 69; (with_reducible refine (r1_Fits.calls a0_4 t365 t367 _ A29.out).mono ?_); rintro e w' ⟨rfl, ⟨nd, rfl⟩⟩; (try first | exact ⟨rfl, _, World.drewN_drewN _ _ _⟩ | exact ⟨rfl, _, Eq.trans (World.drewN_drewN _ _ _) (congrArg (World.drewN _) (Nat.add_assoc _ _ _))⟩))))
      go_ret
      exact ⟨by first | rfl | (simp [eN_, eS_] <;> rfl) | (simp [*, eN_, eS_] <;> rfl), by repeat (first | (with_reducible first | exact HB.out | apply bA_ | apply bN_ | apply b1_ | refine bS_ ?_ GE350.out) | exact HB.out)⟩
     rw [if_neg c27] at H
     have c27b0 : decide (0 < t365) = false := decide_eq_false c27
     clear c27
     obtain rfl := Option.some.inj H
     have hcz31_0 : wc.cell? ⟨gb350, 0, none⟩ = some (.int .i64 a0_0) := (bC_ BK350.out 0).trans rfl
     have hcz31_1 : wc.cell? ⟨gb350, 1, none⟩ = some (.int .i64 a0_1) := (bC_ BK350.out 1).trans rfl
     have hcz31_2 : wc.cell? ⟨gb350, 2, none⟩ = some (.int .i64 a0_2) := (bC_ BK350.out 2).trans rfl
     have hcz31_3 : wc.cell? ⟨gb350, 3, none⟩ = some (.int .i64 a0_3) := (bC_ BK350.out 3).trans rfl
     have hcz31_4 : wc.cell? ⟨gb350, 4, none⟩ = some (.int .i64 a0_4) := (bC_ BK350.out 4).trans rfl
     have hcz31_5 : wc.cell? ⟨gb350, 5, none⟩ = some (.string a0_5) := (bC_ BK350.out 5).trans rfl
     have hfz31_0 := bZ_ BK350.out 0
     have hfz31_1 := bZ_ BK350.out 1
     have hfz31_2 := bZ_ BK350.out 2
     have hfz31_3 := bZ_ BK350.out 3
     have hfz31_4 := bZ_ BK350.out 4
     have hfz31_5 := bZ_ BK350.out 5
     go_wp2_with (first | (go_at_call 43; (with_reducible refine (r3_Target.calls t352 false _ A22.out).mono ?_); rintro e w' ⟨rfl, ⟨nd, rfl⟩⟩; (try first | exact ⟨rfl, _, World.drewN_drewN _ _ _⟩ | exact ⟨rfl, _, Eq.trans (World.drewN_drewN _ _ _) (congrArg (World.drewN _) (Nat.add_assoc _ _ _))⟩)) | (go_at_call 70; (with_reducible refine (r3_Bits.calls kj4 t352 t365 _ A26.out).mono ?_); rintro e w' ⟨rfl, ⟨nd, rfl⟩⟩; (try first | exact ⟨rfl, _, World.drewN_drewN _ _ _⟩ | exact ⟨rfl, _, Eq.trans (World.drewN_drewN _ _ _) (congrArg (World.drewN _) (Nat.add_assoc _ _ _))⟩)))
     repeat (go_quiet (first | (go_at_call 43; (with_reducible refine (r3_Target.calls t352 false _ A22.out).mono ?_); rintro e w' ⟨rfl, ⟨nd, rfl⟩⟩; (try first | exact ⟨rfl, _, World.drewN_drewN _ _ _⟩ | exact ⟨rfl, _, Eq.trans (World.drewN_drewN _ _ _) (congrArg (World.drewN _) (Nat.add_assoc _ _ _))⟩)) | (go_at_call 70; (with_reducible refine (r3_Bits.calls kj4 t352 t365 _ A26.out).mono ?_); rintro e w' ⟨rfl, ⟨nd, rfl⟩⟩; (try first | exact ⟨rfl, _, World.drewN_drewN _ _ _⟩ | exact ⟨rfl, _, Eq.trans (World.drewN_drewN _ _ _) (congrArg (World.drewN _) (Nat.add_assoc _ _ _))⟩))); try go_wp2_with (first | (go_at_call 43; (with_reducible refine (r3_Target.calls t352 false _ A22.out).mono ?_); rintro e w' ⟨rfl, ⟨nd, rfl⟩⟩; (try first | exact ⟨rfl, _, World.drewN_drewN _ _ _⟩ | exact ⟨rfl, _, Eq.trans (World.drewN_drewN _ _ _) (congrArg (World.drewN _) (Nat.add_assoc _ _ _))⟩)) | (go_at_call 70; (with_reducible refine (r3_Bits.calls kj4 t352 t365 _ A26.out).mono ?_); rintro e w' ⟨rfl, ⟨nd, rfl⟩⟩; (try first | exact ⟨rfl, _, World.drewN_drewN _ _ _⟩ | exact ⟨rfl, _, Eq.trans (World.drewN_drewN _ _ _) (congrArg (World.drewN _) (Nat.add_assoc _ _ _))⟩))))
     go_ret
     exact ⟨by first | rfl | (simp [eN_, eS_] <;> rfl) | (simp [*, eN_, eS_] <;> rfl), by repeat (first | (with_reducible first | exact HB.out | apply bA_ | apply bN_ | apply b1_ | refine bS_ ?_ GE350.out) | exact HB.out)⟩
    rw [if_neg c21] at H
    have c21b0 : (a0_5.toList == ([] : List UInt8)) = false := beq_eq_false_iff_ne.mpr c21
    have c21b1 : (a0_5.toList != ([] : List UInt8)) = true := bne_iff_ne.mpr c21
    replace H := Option.bind_eq_some_iff.mp H
    obtain ⟨t359, A320, H⟩ := H
    replace H : (if t359 = true then (if a0_0 = 23 then ((r1_Fits.f a0_4 18).bind fun t360 => (if t360 = true then (some true) else ((r3_Target.f t352).bind fun t361 => (if t361 = true then (some (a0_4 == 0)) else (some false))))) else ((r3_Target.f t352).bind fun t362 => (if t362 = true then (some (a0_4 == 0)) else (some false)))) else (some false)) = some r := H
    have A32 := As_.mk A320
    clear A320
    by_cases c33 : t359 = true
    ·subst c33
     have H1 : (if a0_0 = 23 then ((r1_Fits.f a0_4 18).bind fun t360 => (if t360 = true then (some true) else ((r3_Target.f t352).bind fun t361 => (if t361 = true then (some (a0_4 == 0)) else (some false))))) else ((r3_Target.f t352).bind fun t362 => (if t362 = true then (some (a0_4 == 0)) else (some false)))) = some r := by rw [if_pos rfl] at H; exact H
     clear H
     have H := H1
     clear H1
     by_cases c34 : a0_0 = 23
     ·rw [if_pos c34] at H
      have c34b0 : (a0_0 == 23) = true := beq_iff_eq.mpr c34
      have c34b1 : (a0_0 != 23) = false := bne_eq_false_iff_eq.mpr c34
      clear c34
      replace H := Option.bind_eq_some_iff.mp H
      obtain ⟨t360, A350, H⟩ := H
      replace H : (if t360 = true then (some true) else ((r3_Target.f t352).bind fun t361 => (if t361 = true then (some (a0_4 == 0)) else (some false)))) = some r := H
      have A35 := As_.mk A350
      clear A350
      by_cases c36 : t360 = true
      ·subst c36
       have H1 : (some true) = some r := by rw [if_pos rfl] at H; exact H
       clear H
       have H := H1
       clear H1
       obtain rfl := Option.some.inj H
       have hcz37_0 : wc.cell? ⟨gb350, 0, none⟩ = some (.int .i64 a0_0) := (bC_ BK350.out 0).trans rfl
       have hcz37_1 : wc.cell? ⟨gb350, 1, none⟩ = some (.int .i64 a0_1) := (bC_ BK350.out 1).trans rfl
       have hcz37_2 : wc.cell? ⟨gb350, 2, none⟩ = some (.int .i64 a0_2) := (bC_ BK350.out 2).trans rfl
       have hcz37_3 : wc.cell? ⟨gb350, 3, none⟩ = some (.int .i64 a0_3) := (bC_ BK350.out 3).trans rfl
       have hcz37_4 : wc.cell? ⟨gb350, 4, none⟩ = some (.int .i64 a0_4) := (bC_ BK350.out 4).trans rfl
       have hcz37_5 : wc.cell? ⟨gb350, 5, none⟩ = some (.string a0_5) := (bC_ BK350.out 5).trans rfl
       have hfz37_0 := bZ_ BK350.out 0
       have hfz37_1 := bZ_ BK350.out 1
       have hfz37_2 := bZ_ BK350.out 2
       have hfz37_3 := bZ_ BK350.out 3
       have hfz37_4 := bZ_ BK350.out 4
       have hfz37_5 := bZ_ BK350.out 5
       go_wp2_with (first | (go_at_call 68; (with_reducible refine (r3_Name.calls kj4 a0_5 true _ A32.out).mono ?_); rintro e w' ⟨rfl, ⟨nd, rfl⟩⟩; (try first | exact ⟨rfl, _, World.drewN_drewN _ _ _⟩ | exact ⟨rfl, _, Eq.trans (World.drewN_drewN _ _ _) (congrArg (World.drewN _) (Nat.add_assoc _ _ _))⟩)) | (go_at_call 69; (with_reducible refine (r1_Fits.calls a0_4 18 true _ A35.out).mono ?_); rintro e w' ⟨rfl, ⟨nd, rfl⟩⟩; (try first | exact ⟨rfl, _, World.drewN_drewN _ _ _⟩ | exact ⟨rfl, _, Eq.trans (World.drewN_drewN _ _ _) (congrArg (World.drewN _) (Nat.add_assoc _ _ _))⟩)))
       repeat (go_quiet (first | (go_at_call 68; (with_reducible refine (r3_Name.calls kj4 a0_5 true _ A32.out).mono ?_); rintro e w' ⟨rfl, ⟨nd, rfl⟩⟩; (try first | exact ⟨rfl, _, World.drewN_drewN _ _ _⟩ | exact ⟨rfl, _, Eq.trans (World.drewN_drewN _ _ _) (congrArg (World.drewN _) (Nat.add_assoc _ _ _))⟩)) | (go_at_call 69; (with_reducible refine (r1_Fits.calls a0_4 18 true _ A35.out).mono ?_); rintro e w' ⟨rfl, ⟨nd, rfl⟩⟩; (try first | exact ⟨rfl, _, World.drewN_drewN _ _ _⟩ | exact ⟨rfl, _, Eq.trans (World.drewN_drewN _ _ _) (congrArg (World.drewN _) (Nat.add_assoc _ _ _))⟩))); try go_wp2_with (first | (go_at_call 68; (with_reducible refine (r3_Name.calls kj4 a0_5 true _ A32.out).mono ?_); rintro e w' ⟨rfl, ⟨nd, rfl⟩⟩; (try first | exact ⟨rfl, _, World.drewN_drewN _ _ _⟩ | exact ⟨rfl, _, Eq.trans (World.drewN_drewN _ _ _) (congrArg (World.drewN _) (Nat.add_assoc _ _ _))⟩)) | (go_at_call 69; (with_reducible refine (r1_Fits.calls a0_4 18 true _ A35.out).mono ?_); rintro e w' ⟨rfl, ⟨nd, rfl⟩⟩; (try first | exact ⟨rfl, _, World.drewN_drewN _ _ _⟩ | exact ⟨rfl, _, Eq.trans (World.drewN_drewN _ _ _) (congrArg (World.drewN _) (Nat.add_assoc _ _ _))⟩))))
       go_ret
       exact ⟨by first | rfl | (simp [eN_, eS_] <;> rfl) | (simp [*, eN_, eS_] <;> rfl), by repeat (first | (with_reducible first | exact HB.out | apply bA_ | apply bN_ | apply b1_ | refine bS_ ?_ GE350.out) | exact HB.out)⟩
      replace c36 := Bool.eq_false_iff.mpr c36
      subst c36
      have H1 : ((r3_Target.f t352).bind fun t361 => (if t361 = true then (some (a0_4 == 0)) else (some false))) = some r := by rw [if_neg (show ¬ (false = true) by decide)] at H; exact H
      clear H
      have H := H1
      clear H1
      replace H := Option.bind_eq_some_iff.mp H
      obtain ⟨t361, A380, H⟩ := H
      replace H : (if t361 = true then (some (a0_4 == 0)) else (some false)) = some r := H
      have A38 := As_.mk A380
      clear A380
      by_cases c39 : t361 = true
      ·subst c39
       have H1 : (some (a0_4 == 0)) = some r := by rw [if_pos rfl] at H; exact H
       clear H
       have H := H1
       clear H1
       obtain rfl := Option.some.inj H
       have hcz40_0 : wc.cell? ⟨gb350, 0, none⟩ = some (.int .i64 a0_0) := (bC_ BK350.out 0).trans rfl
       have hcz40_1 : wc.cell? ⟨gb350, 1, none⟩ = some (.int .i64 a0_1) := (bC_ BK350.out 1).trans rfl
       have hcz40_2 : wc.cell? ⟨gb350, 2, none⟩ = some (.int .i64 a0_2) := (bC_ BK350.out 2).trans rfl
       have hcz40_3 : wc.cell? ⟨gb350, 3, none⟩ = some (.int .i64 a0_3) := (bC_ BK350.out 3).trans rfl
       have hcz40_4 : wc.cell? ⟨gb350, 4, none⟩ = some (.int .i64 a0_4) := (bC_ BK350.out 4).trans rfl
       have hcz40_5 : wc.cell? ⟨gb350, 5, none⟩ = some (.string a0_5) := (bC_ BK350.out 5).trans rfl
       have hfz40_0 := bZ_ BK350.out 0
       have hfz40_1 := bZ_ BK350.out 1
       have hfz40_2 := bZ_ BK350.out 2
       have hfz40_3 := bZ_ BK350.out 3
       have hfz40_4 := bZ_ BK350.out 4
       have hfz40_5 := bZ_ BK350.out 5
       go_wp2_with (first | (go_at_call 68; (with_reducible refine (r3_Name.calls kj4 a0_5 true _ A32.out).mono ?_); rintro e w' ⟨rfl, ⟨nd, rfl⟩⟩; (try first | exact ⟨rfl, _, World.drewN_drewN _ _ _⟩ | exact ⟨rfl, _, Eq.trans (World.drewN_drewN _ _ _) (congrArg (World.drewN _) (Nat.add_assoc _ _ _))⟩)) | (go_at_call 69; (with_reducible refine (r1_Fits.calls a0_4 18 false _ A35.out).mono ?_); rintro e w' ⟨rfl, ⟨nd, rfl⟩⟩; (try first | exact ⟨rfl, _, World.drewN_drewN _ _ _⟩ | exact ⟨rfl, _, Eq.trans (World.drewN_drewN _ _ _) (congrArg (World.drewN _) (Nat.add_assoc _ _ _))⟩)) | (go_at_call 43; (with_reducible refine (r3_Target.calls t352 true _ A38.out).mono ?_); rintro e w' ⟨rfl, ⟨nd, rfl⟩⟩; (try first | exact ⟨rfl, _, World.drewN_drewN _ _ _⟩ | exact ⟨rfl, _, Eq.trans (World.drewN_drewN _ _ _) (congrArg (World.drewN _) (Nat.add_assoc _ _ _))⟩)))
       repeat (go_quiet (first | (go_at_call 68; (with_reducible refine (r3_Name.calls kj4 a0_5 true _ A32.out).mono ?_); rintro e w' ⟨rfl, ⟨nd, rfl⟩⟩; (try first | exact ⟨rfl, _, World.drewN_drewN _ _ _⟩ | exact ⟨rfl, _, Eq.trans (World.drewN_drewN _ _ _) (congrArg (World.drewN _) (Nat.add_assoc _ _ _))⟩)) | (go_at_call 69; (with_reducible refine (r1_Fits.calls a0_4 18 false _ A35.out).mono ?_); rintro e w' ⟨rfl, ⟨nd, rfl⟩⟩; (try first | exact ⟨rfl, _, World.drewN_drewN _ _ _⟩ | exact ⟨rfl, _, Eq.trans (World.drewN_drewN _ _ _) (congrArg (World.drewN _) (Nat.add_assoc _ _ _))⟩)) | (go_at_call 43; (with_reducible refine (r3_Target.calls t352 true _ A38.out).mono ?_); rintro e w' ⟨rfl, ⟨nd, rfl⟩⟩; (try first | exact ⟨rfl, _, World.drewN_drewN _ _ _⟩ | exact ⟨rfl, _, Eq.trans (World.drewN_drewN _ _ _) (congrArg (World.drewN _) (Nat.add_assoc _ _ _))⟩))); try go_wp2_with (first | (go_at_call 68; (with_reducible refine (r3_Name.calls kj4 a0_5 true _ A32.out).mono ?_); rintro e w' ⟨rfl, ⟨nd, rfl⟩⟩; (try first | exact ⟨rfl, _, World.drewN_drewN _ _ _⟩ | exact ⟨rfl, _, Eq.trans (World.drewN_drewN _ _ _) (congrArg (World.drewN _) (Nat.add_assoc _ _ _))⟩)) | (go_at_call 69; (with_reducible refine (r1_Fits.calls a0_4 18 false _ A35.out).mono ?_); rintro e w' ⟨rfl, ⟨nd, rfl⟩⟩; (try first | exact ⟨rfl, _, World.drewN_drewN _ _ _⟩ | exact ⟨rfl, _, Eq.trans (World.drewN_drewN _ _ _) (congrArg (World.drewN _) (Nat.add_assoc _ _ _))⟩)) | (go_at_call 43; (with_reducible refine (r3_Target.calls t352 true _ A38.out).mono ?_); rintro e w' ⟨rfl, ⟨nd, rfl⟩⟩; (try first | exact ⟨rfl, _, World.drewN_drewN _ _ _⟩ | exact ⟨rfl, _, Eq.trans (World.drewN_drewN _ _ _) (congrArg (World.drewN _) (Nat.add_assoc _ _ _))⟩))))
       go_ret
       exact ⟨by first | rfl | (simp [eN_, eS_] <;> rfl) | (simp [*, eN_, eS_] <;> rfl), by repeat (first | (with_reducible first | exact HB.out | apply bA_ | apply bN_ | apply b1_ | refine bS_ ?_ GE350.out) | exact HB.out)⟩
      replace c39 := Bool.eq_false_iff.mpr c39
      subst c39
      have H1 : (some false) = some r := by rw [if_neg (show ¬ (false = true) by decide)] at H; exact H
      clear H
      have H := H1
      clear H1
      obtain rfl := Option.some.inj H
      have hcz41_0 : wc.cell? ⟨gb350, 0, none⟩ = some (.int .i64 a0_0) := (bC_ BK350.out 0).trans rfl
      have hcz41_1 : wc.cell? ⟨gb350, 1, none⟩ = some (.int .i64 a0_1) := (bC_ BK350.out 1).trans rfl
      have hcz41_2 : wc.cell? ⟨gb350, 2, none⟩ = some (.int .i64 a0_2) := (bC_ BK350.out 2).trans rfl
      have hcz41_3 : wc.cell? ⟨gb350, 3, none⟩ = some (.int .i64 a0_3) := (bC_ BK350.out 3).trans rfl
      have hcz41_4 : wc.cell? ⟨gb350, 4, none⟩ = some (.int .i64 a0_4) := (bC_ BK350.out 4).trans rfl
      have hcz41_5 : wc.cell? ⟨gb350, 5, none⟩ = some (.string a0_5) := (bC_ BK350.out 5).trans rfl
      have hfz41_0 := bZ_ BK350.out 0
      have hfz41_1 := bZ_ BK350.out 1
      have hfz41_2 := bZ_ BK350.out 2
      have hfz41_3 := bZ_ BK350.out 3
      have hfz41_4 := bZ_ BK350.out 4
      have hfz41_5 := bZ_ BK350.out 5
      go_wp2_with (first | (go_at_call 68; (with_reducible refine (r3_Name.calls kj4 a0_5 true _ A32.out).mono ?_); rintro e w' ⟨rfl, ⟨nd, rfl⟩⟩; (try first | exact ⟨rfl, _, World.drewN_drewN _ _ _⟩ | exact ⟨rfl, _, Eq.trans (World.drewN_drewN _ _ _) (congrArg (World.drewN _) (Nat.add_assoc _ _ _))⟩)) | (go_at_call 69; (with_reducible refine (r1_Fits.calls a0_4 18 false _ A35.out).mono ?_); rintro e w' ⟨rfl, ⟨nd, rfl⟩⟩; (try first | exact ⟨rfl, _, World.drewN_drewN _ _ _⟩ | exact ⟨rfl, _, Eq.trans (World.drewN_drewN _ _ _) (congrArg (World.drewN _) (Nat.add_assoc _ _ _))⟩)) | (go_at_call 43; (with_reducible refine (r3_Target.calls t352 false _ A38.out).mono ?_); rintro e w' ⟨rfl, ⟨nd, rfl⟩⟩; (try first | exact ⟨rfl, _, World.drewN_drewN _ _ _⟩ | exact ⟨rfl, _, Eq.trans (World.drewN_drewN _ _ _) (congrArg (World.drewN _) (Nat.add_assoc _ _ _))⟩)))
      repeat (go_quiet (first | (go_at_call 68; (with_reducible refine (r3_Name.calls kj4 a0_5 true _ A32.out).mono ?_); rintro e w' ⟨rfl, ⟨nd, rfl⟩⟩; (try first | exact ⟨rfl, _, World.drewN_drewN _ _ _⟩ | exact ⟨rfl, _, Eq.trans (World.drewN_drewN _ _ _) (congrArg (World.drewN _) (Nat.add_assoc _ _ _))⟩)) | (go_at_call 69; (with_reducible refine (r1_Fits.calls a0_4 18 false _ A35.out).mono ?_); rintro e w' ⟨rfl, ⟨nd, rfl⟩⟩; (try first | exact ⟨rfl, _, World.drewN_drewN _ _ _⟩ | exact ⟨rfl, _, Eq.trans (World.drewN_drewN _ _ _) (congrArg (World.drewN _) (Nat.add_assoc _ _ _))⟩)) | (go_at_call 43; (with_reducible refine (r3_Target.calls t352 false _ A38.out).mono ?_); rintro e w' ⟨rfl, ⟨nd, rfl⟩⟩; (try first | exact ⟨rfl, _, World.drewN_drewN _ _ _⟩ | exact ⟨rfl, _, Eq.trans (World.drewN_drewN _ _ _) (congrArg (World.drewN _) (Nat.add_assoc _ _ _))⟩))); try go_wp2_with (first | (go_at_call 68; (with_reducible refine (r3_Name.calls kj4 a0_5 true _ A32.out).mono ?_); rintro e w' ⟨rfl, ⟨nd, rfl⟩⟩; (try first | exact ⟨rfl, _, World.drewN_drewN _ _ _⟩ | exact ⟨rfl, _, Eq.trans (World.drewN_drewN _ _ _) (congrArg (World.drewN _) (Nat.add_assoc _ _ _))⟩)) | (go_at_call 69; (with_reducible refine (r1_Fits.calls a0_4 18 false _ A35.out).mono ?_); rintro e w' ⟨rfl, ⟨nd, rfl⟩⟩; (try first | exact ⟨rfl, _, World.drewN_drewN _ _ _⟩ | exact ⟨rfl, _, Eq.trans (World.drewN_drewN _ _ _) (congrArg (World.drewN _) (Nat.add_assoc _ _ _))⟩)) | (go_at_call 43; (with_reducible refine (r3_Target.calls t352 false _ A38.out).mono ?_); rintro e w' ⟨rfl, ⟨nd, rfl⟩⟩; (try first | exact ⟨rfl, _, World.drewN_drewN _ _ _⟩ | exact ⟨rfl, _, Eq.trans (World.drewN_drewN _ _ _) (congrArg (World.drewN _) (Nat.add_assoc _ _ _))⟩))))
      go_ret
      exact ⟨by first | rfl | (simp [eN_, eS_] <;> rfl) | (simp [*, eN_, eS_] <;> rfl), by repeat (first | (with_reducible first | exact HB.out | apply bA_ | apply bN_ | apply b1_ | refine bS_ ?_ GE350.out) | exact HB.out)⟩
     rw [if_neg c34] at H
     have c34b0 : (a0_0 == 23) = false := beq_eq_false_iff_ne.mpr c34
     have c34b1 : (a0_0 != 23) = true := bne_iff_ne.mpr c34
     replace H := Option.bind_eq_some_iff.mp H
     obtain ⟨t362, A420, H⟩ := H
     replace H : (if t362 = true then (some (a0_4 == 0)) else (some false)) = some r := H
     have A42 := As_.mk A420
     clear A420
     by_cases c43 : t362 = true
     ·subst c43
      have H1 : (some (a0_4 == 0)) = some r := by rw [if_pos rfl] at H; exact H
      clear H
      have H := H1
      clear H1
      obtain rfl := Option.some.inj H
      have hcz44_0 : wc.cell? ⟨gb350, 0, none⟩ = some (.int .i64 a0_0) := (bC_ BK350.out 0).trans rfl
      have hcz44_1 : wc.cell? ⟨gb350, 1, none⟩ = some (.int .i64 a0_1) := (bC_ BK350.out 1).trans rfl
      have hcz44_2 : wc.cell? ⟨gb350, 2, none⟩ = some (.int .i64 a0_2) := (bC_ BK350.out 2).trans rfl
      have hcz44_3 : wc.cell? ⟨gb350, 3, none⟩ = some (.int .i64 a0_3) := (bC_ BK350.out 3).trans rfl
      have hcz44_4 : wc.cell? ⟨gb350, 4, none⟩ = some (.int .i64 a0_4) := (bC_ BK350.out 4).trans rfl
      have hcz44_5 : wc.cell? ⟨gb350, 5, none⟩ = some (.string a0_5) := (bC_ BK350.out 5).trans rfl
      have hfz44_0 := bZ_ BK350.out 0
      have hfz44_1 := bZ_ BK350.out 1
      have hfz44_2 := bZ_ BK350.out 2
      have hfz44_3 := bZ_ BK350.out 3
      have hfz44_4 := bZ_ BK350.out 4
      have hfz44_5 := bZ_ BK350.out 5
      go_wp2_with (first | (go_at_call 68; (with_reducible refine (r3_Name.calls kj4 a0_5 true _ A32.out).mono ?_); rintro e w' ⟨rfl, ⟨nd, rfl⟩⟩; (try first | exact ⟨rfl, _, World.drewN_drewN _ _ _⟩ | exact ⟨rfl, _, Eq.trans (World.drewN_drewN _ _ _) (congrArg (World.drewN _) (Nat.add_assoc _ _ _))⟩)) | (go_at_call 43; (with_reducible refine (r3_Target.calls t352 true _ A42.out).mono ?_); rintro e w' ⟨rfl, ⟨nd, rfl⟩⟩; (try first | exact ⟨rfl, _, World.drewN_drewN _ _ _⟩ | exact ⟨rfl, _, Eq.trans (World.drewN_drewN _ _ _) (congrArg (World.drewN _) (Nat.add_assoc _ _ _))⟩)))
      repeat (go_quiet (first | (go_at_call 68; (with_reducible refine (r3_Name.calls kj4 a0_5 true _ A32.out).mono ?_); rintro e w' ⟨rfl, ⟨nd, rfl⟩⟩; (try first | exact ⟨rfl, _, World.drewN_drewN _ _ _⟩ | exact ⟨rfl, _, Eq.trans (World.drewN_drewN _ _ _) (congrArg (World.drewN _) (Nat.add_assoc _ _ _))⟩)) | (go_at_call 43; (with_reducible refine (r3_Target.calls t352 true _ A42.out).mono ?_); rintro e w' ⟨rfl, ⟨nd, rfl⟩⟩; (try first | exact ⟨rfl, _, World.drewN_drewN _ _ _⟩ | exact ⟨rfl, _, Eq.trans (World.drewN_drewN _ _ _) (congrArg (World.drewN _) (Nat.add_assoc _ _ _))⟩))); try go_wp2_with (first | (go_at_call 68; (with_reducible refine (r3_Name.calls kj4 a0_5 true _ A32.out).mono ?_); rintro e w' ⟨rfl, ⟨nd, rfl⟩⟩; (try first | exact ⟨rfl, _, World.drewN_drewN _ _ _⟩ | exact ⟨rfl, _, Eq.trans (World.drewN_drewN _ _ _) (congrArg (World.drewN _) (Nat.add_assoc _ _ _))⟩)) | (go_at_call 43; (with_reducible refine (r3_Target.calls t352 true _ A42.out).mono ?_); rintro e w' ⟨rfl, ⟨nd, rfl⟩⟩; (try first | exact ⟨rfl, _, World.drewN_drewN _ _ _⟩ | exact ⟨rfl, _, Eq.trans (World.drewN_drewN _ _ _) (congrArg (World.drewN _) (Nat.add_assoc _ _ _))⟩))))
      go_ret
      exact ⟨by first | rfl | (simp [eN_, eS_] <;> rfl) | (simp [*, eN_, eS_] <;> rfl), by repeat (first | (with_reducible first | exact HB.out | apply bA_ | apply bN_ | apply b1_ | refine bS_ ?_ GE350.out) | exact HB.out)⟩
     replace c43 := Bool.eq_false_iff.mpr c43
     subst c43
     have H1 : (some false) = some r := by rw [if_neg (show ¬ (false = true) by decide)] at H; exact H
     clear H
     have H := H1
     clear H1
     obtain rfl := Option.some.inj H
     have hcz45_0 : wc.cell? ⟨gb350, 0, none⟩ = some (.int .i64 a0_0) := (bC_ BK350.out 0).trans rfl
     have hcz45_1 : wc.cell? ⟨gb350, 1, none⟩ = some (.int .i64 a0_1) := (bC_ BK350.out 1).trans rfl
     have hcz45_2 : wc.cell? ⟨gb350, 2, none⟩ = some (.int .i64 a0_2) := (bC_ BK350.out 2).trans rfl
     have hcz45_3 : wc.cell? ⟨gb350, 3, none⟩ = some (.int .i64 a0_3) := (bC_ BK350.out 3).trans rfl
     have hcz45_4 : wc.cell? ⟨gb350, 4, none⟩ = some (.int .i64 a0_4) := (bC_ BK350.out 4).trans rfl
     have hcz45_5 : wc.cell? ⟨gb350, 5, none⟩ = some (.string a0_5) := (bC_ BK350.out 5).trans rfl
     have hfz45_0 := bZ_ BK350.out 0
     have hfz45_1 := bZ_ BK350.out 1
     have hfz45_2 := bZ_ BK350.out 2
     have hfz45_3 := bZ_ BK350.out 3
     have hfz45_4 := bZ_ BK350.out 4
     have hfz45_5 := bZ_ BK350.out 5
     go_wp2_with (first | (go_at_call 68; (with_reducible refine (r3_Name.calls kj4 a0_5 true _ A32.out).mono ?_); rintro e w' ⟨rfl, ⟨nd, rfl⟩⟩; (try first | exact ⟨rfl, _, World.drewN_drewN _ _ _⟩ | exact ⟨rfl, _, Eq.trans (World.drewN_drewN _ _ _) (congrArg (World.drewN _) (Nat.add_assoc _ _ _))⟩)) | (go_at_call 43; (with_reducible refine (r3_Target.calls t352 false _ A42.out).mono ?_); rintro e w' ⟨rfl, ⟨nd, rfl⟩⟩; (try first | exact ⟨rfl, _, World.drewN_drewN _ _ _⟩ | exact ⟨rfl, _, Eq.trans (World.drewN_drewN _ _ _) (congrArg (World.drewN _) (Nat.add_assoc _ _ _))⟩)))
     repeat (go_quiet (first | (go_at_call 68; (with_reducible refine (r3_Name.calls kj4 a0_5 true _ A32.out).mono ?_); rintro e w' ⟨rfl, ⟨nd, rfl⟩⟩; (try first | exact ⟨rfl, _, World.drewN_drewN _ _ _⟩ | exact ⟨rfl, _, Eq.trans (World.drewN_drewN _ _ _) (congrArg (World.drewN _) (Nat.add_assoc _ _ _))⟩)) | (go_at_call 43; (with_reducible refine (r3_Target.calls t352 false _ A42.out).mono ?_); rintro e w' ⟨rfl, ⟨nd, rfl⟩⟩; (try first | exact ⟨rfl, _, World.drewN_drewN _ _ _⟩ | exact ⟨rfl, _, Eq.trans (World.drewN_drewN _ _ _) (congrArg (World.drewN _) (Nat.add_assoc _ _ _))⟩))); try go_wp2_with (first | (go_at_call 68; (with_reducible refine (r3_Name.calls kj4 a0_5 true _ A32.out).mono ?_); rintro e w' ⟨rfl, ⟨nd, rfl⟩⟩; (try first | exact ⟨rfl, _, World.drewN_drewN _ _ _⟩ | exact ⟨rfl, _, Eq.trans (World.drewN_drewN _ _ _) (congrArg (World.drewN _) (Nat.add_assoc _ _ _))⟩)) | (go_at_call 43; (with_reducible refine (r3_Target.calls t352 false _ A42.out).mono ?_); rintro e w' ⟨rfl, ⟨nd, rfl⟩⟩; (try first | exact ⟨rfl, _, World.drewN_drewN _ _ _⟩ | exact ⟨rfl, _, Eq.trans (World.drewN_drewN _ _ _) (congrArg (World.drewN _) (Nat.add_assoc _ _ _))⟩))))
     go_ret
     exact ⟨by first | rfl | (simp [eN_, eS_] <;> rfl) | (simp [*, eN_, eS_] <;> rfl), by repeat (first | (with_reducible first | exact HB.out | apply bA_ | apply bN_ | apply b1_ | refine bS_ ?_ GE350.out) | exact HB.out)⟩
    replace c33 := Bool.eq_false_iff.mpr c33
    subst c33
    have H1 : (some false) = some r := by rw [if_neg (show ¬ (false = true) by decide)] at H; exact H
    clear H
    have H := H1
    clear H1
    obtain rfl := Option.some.inj H
    have hcz46_0 : wc.cell? ⟨gb350, 0, none⟩ = some (.int .i64 a0_0) := (bC_ BK350.out 0).trans rfl
    have hcz46_1 : wc.cell? ⟨gb350, 1, none⟩ = some (.int .i64 a0_1) := (bC_ BK350.out 1).trans rfl
    have hcz46_2 : wc.cell? ⟨gb350, 2, none⟩ = some (.int .i64 a0_2) := (bC_ BK350.out 2).trans rfl
    have hcz46_3 : wc.cell? ⟨gb350, 3, none⟩ = some (.int .i64 a0_3) := (bC_ BK350.out 3).trans rfl
    have hcz46_4 : wc.cell? ⟨gb350, 4, none⟩ = some (.int .i64 a0_4) := (bC_ BK350.out 4).trans rfl
    have hcz46_5 : wc.cell? ⟨gb350, 5, none⟩ = some (.string a0_5) := (bC_ BK350.out 5).trans rfl
    have hfz46_0 := bZ_ BK350.out 0
    have hfz46_1 := bZ_ BK350.out 1
    have hfz46_2 := bZ_ BK350.out 2
    have hfz46_3 := bZ_ BK350.out 3
    have hfz46_4 := bZ_ BK350.out 4
    have hfz46_5 := bZ_ BK350.out 5
    go_wp2_with (first | (go_at_call 68; (with_reducible refine (r3_Name.calls kj4 a0_5 false _ A32.out).mono ?_); rintro e w' ⟨rfl, ⟨nd, rfl⟩⟩; (try first | exact ⟨rfl, _, World.drewN_drewN _ _ _⟩ | exact ⟨rfl, _, Eq.trans (World.drewN_drewN _ _ _) (congrArg (World.drewN _) (Nat.add_assoc _ _ _))⟩)))
    repeat (go_quiet (first | (go_at_call 68; (with_reducible refine (r3_Name.calls kj4 a0_5 false _ A32.out).mono ?_); rintro e w' ⟨rfl, ⟨nd, rfl⟩⟩; (try first | exact ⟨rfl, _, World.drewN_drewN _ _ _⟩ | exact ⟨rfl, _, Eq.trans (World.drewN_drewN _ _ _) (congrArg (World.drewN _) (Nat.add_assoc _ _ _))⟩))); try go_wp2_with (first | (go_at_call 68; (with_reducible refine (r3_Name.calls kj4 a0_5 false _ A32.out).mono ?_); rintro e w' ⟨rfl, ⟨nd, rfl⟩⟩; (try first | exact ⟨rfl, _, World.drewN_drewN _ _ _⟩ | exact ⟨rfl, _, Eq.trans (World.drewN_drewN _ _ _) (congrArg (World.drewN _) (Nat.add_assoc _ _ _))⟩))))
    go_ret
    exact ⟨by first | rfl | (simp [eN_, eS_] <;> rfl) | (simp [*, eN_, eS_] <;> rfl), by repeat (first | (with_reducible first | exact HB.out | apply bA_ | apply bN_ | apply b1_ | refine bS_ ?_ GE350.out) | exact HB.out)⟩
 replace c3 := Bool.eq_false_iff.mpr c3
 subst c3
 have H1 : (some false) = some r := by rw [if_neg (show ¬ (false = true) by decide)] at H; exact H
 clear H
 have H := H1
 clear H1
 obtain rfl := Option.some.inj H
 go_enter Try.func39, Try.ntmps39
 go_wp2_with (first | ((with_reducible refine gate_dst (N := 1) rfl ?_); refine box_event ?hg (N := 1) ?hd (cs := #[.int .i64 a0_0, .int .i64 a0_1, .int .i64 a0_2, .int .i64 a0_3, .int .i64 a0_4, .string a0_5]) (t := 24) ?hr ?_; (case hd => rfl); (case hg => rfl); (case hr => first | (go_simp; done) | (go_simp; rfl)); intro gb350 hg w47 hbox hb; have n0_ := As_.mk (bT_ (by repeat (first | (with_reducible first | exact HB.out | apply bA_ | apply bN_ | apply b1_) | exact HB.out)) hb); have n1_ := As_.mk (hbox); have n2_ := As_.mk ((by rw [hg]; exact (bY_ (by repeat (first | (with_reducible first | exact HB.out | apply bA_ | apply bN_ | apply b1_) | exact HB.out))) : w.heap.size ≤ gb350)); have n3_ := As_.mk ((by rw [hg]; exact (bY_ (by repeat (first | (with_reducible first | exact HB.out | apply bA_ | apply bN_ | apply b1_) | exact HB.out))) : w.heap.size ≤ gb350)); clear HB; have HB := n0_; have BK350 := n1_; have GW350 := n2_; have GE350 := n3_; clear n0_ n1_ n2_ n3_; clear hb hbox hg; have hcz48_0 : w47.cell? ⟨gb350, 0, none⟩ = some (.int .i64 a0_0) := (bC_ BK350.out 0).trans rfl; have hcz48_1 : w47.cell? ⟨gb350, 1, none⟩ = some (.int .i64 a0_1) := (bC_ BK350.out 1).trans rfl; have hcz48_2 : w47.cell? ⟨gb350, 2, none⟩ = some (.int .i64 a0_2) := (bC_ BK350.out 2).trans rfl; have hcz48_3 : w47.cell? ⟨gb350, 3, none⟩ = some (.int .i64 a0_3) := (bC_ BK350.out 3).trans rfl; have hcz48_4 : w47.cell? ⟨gb350, 4, none⟩ = some (.int .i64 a0_4) := (bC_ BK350.out 4).trans rfl; have hcz48_5 : w47.cell? ⟨gb350, 5, none⟩ = some (.string a0_5) := (bC_ BK350.out 5).trans rfl; have hfz48_0 := bZ_ BK350.out 0; have hfz48_1 := bZ_ BK350.out 1; have hfz48_2 := bZ_ BK350.out 2; have hfz48_3 := bZ_ BK350.out 3; have hfz48_4 := bZ_ BK350.out 4; have hfz48_5 := bZ_ BK350.out 5) | (go_at_call 66; (with_reducible refine (r3_Valid.calls a0_0 false _ A2.out).mono ?_); rintro e w' ⟨rfl, ⟨nd, rfl⟩⟩; (try first | exact ⟨rfl, _, World.drewN_drewN _ _ _⟩ | exact ⟨rfl, _, Eq.trans (World.drewN_drewN _ _ _) (congrArg (World.drewN _) (Nat.add_assoc _ _ _))⟩)))
 repeat (go_quiet (first | ((with_reducible refine gate_dst (N := 1) rfl ?_); refine box_event ?hg (N := 1) ?hd (cs := #[.int .i64 a0_0, .int .i64 a0_1, .int .i64 a0_2, .int .i64 a0_3, .int .i64 a0_4, .string a0_5]) (t := 24) ?hr ?_; (case hd => rfl); (case hg => rfl); (case hr => first | (go_simp; done) | (go_simp; rfl)); intro gb350 hg w47 hbox hb; have n0_ := As_.mk (bT_ (by repeat (first | (with_reducible first | exact HB.out | apply bA_ | apply bN_ | apply b1_) | exact HB.out)) hb); have n1_ := As_.mk (hbox); have n2_ := As_.mk ((by rw [hg]; exact (bY_ (by repeat (first | (with_reducible first | exact HB.out | apply bA_ | apply bN_ | apply b1_) | exact HB.out))) : w.heap.size ≤ gb350)); have n3_ := As_.mk ((by rw [hg]; exact (bY_ (by repeat (first | (with_reducible first | exact HB.out | apply bA_ | apply bN_ | apply b1_) | exact HB.out))) : w.heap.size ≤ gb350)); clear HB; have HB := n0_; have BK350 := n1_; have GW350 := n2_; have GE350 := n3_; clear n0_ n1_ n2_ n3_; clear hb hbox hg; have hcz48_0 : w47.cell? ⟨gb350, 0, none⟩ = some (.int .i64 a0_0) := (bC_ BK350.out 0).trans rfl; have hcz48_1 : w47.cell? ⟨gb350, 1, none⟩ = some (.int .i64 a0_1) := (bC_ BK350.out 1).trans rfl; have hcz48_2 : w47.cell? ⟨gb350, 2, none⟩ = some (.int .i64 a0_2) := (bC_ BK350.out 2).trans rfl; have hcz48_3 : w47.cell? ⟨gb350, 3, none⟩ = some (.int .i64 a0_3) := (bC_ BK350.out 3).trans rfl; have hcz48_4 : w47.cell? ⟨gb350, 4, none⟩ = some (.int .i64 a0_4) := (bC_ BK350.out 4).trans rfl; have hcz48_5 : w47.cell? ⟨gb350, 5, none⟩ = some (.string a0_5) := (bC_ BK350.out 5).trans rfl; have hfz48_0 := bZ_ BK350.out 0; have hfz48_1 := bZ_ BK350.out 1; have hfz48_2 := bZ_ BK350.out 2; have hfz48_3 := bZ_ BK350.out 3; have hfz48_4 := bZ_ BK350.out 4; have hfz48_5 := bZ_ BK350.out 5) | (go_at_call 66; (with_reducible refine (r3_Valid.calls a0_0 false _ A2.out).mono ?_); rintro e w' ⟨rfl, ⟨nd, rfl⟩⟩; (try first | exact ⟨rfl, _, World.drewN_drewN _ _ _⟩ | exact ⟨rfl, _, Eq.trans (World.drewN_drewN _ _ _) (congrArg (World.drewN _) (Nat.add_assoc _ _ _))⟩))); try go_wp2_with (first | ((with_reducible refine gate_dst (N := 1) rfl ?_); refine box_event ?hg (N := 1) ?hd (cs := #[.int .i64 a0_0, .int .i64 a0_1, .int .i64 a0_2, .int .i64 a0_3, .int .i64 a0_4, .string a0_5]) (t := 24) ?hr ?_; (case hd => rfl); (case hg => rfl); (case hr => first | (go_simp; done) | (go_simp; rfl)); intro gb350 hg w47 hbox hb; have n0_ := As_.mk (bT_ (by repeat (first | (with_reducible first | exact HB.out | apply bA_ | apply bN_ | apply b1_) | exact HB.out)) hb); have n1_ := As_.mk (hbox); have n2_ := As_.mk ((by rw [hg]; exact (bY_ (by repeat (first | (with_reducible first | exact HB.out | apply bA_ | apply bN_ | apply b1_) | exact HB.out))) : w.heap.size ≤ gb350)); have n3_ := As_.mk ((by rw [hg]; exact (bY_ (by repeat (first | (with_reducible first | exact HB.out | apply bA_ | apply bN_ | apply b1_) | exact HB.out))) : w.heap.size ≤ gb350)); clear HB; have HB := n0_; have BK350 := n1_; have GW350 := n2_; have GE350 := n3_; clear n0_ n1_ n2_ n3_; clear hb hbox hg; have hcz48_0 : w47.cell? ⟨gb350, 0, none⟩ = some (.int .i64 a0_0) := (bC_ BK350.out 0).trans rfl; have hcz48_1 : w47.cell? ⟨gb350, 1, none⟩ = some (.int .i64 a0_1) := (bC_ BK350.out 1).trans rfl; have hcz48_2 : w47.cell? ⟨gb350, 2, none⟩ = some (.int .i64 a0_2) := (bC_ BK350.out 2).trans rfl; have hcz48_3 : w47.cell? ⟨gb350, 3, none⟩ = some (.int .i64 a0_3) := (bC_ BK350.out 3).trans rfl; have hcz48_4 : w47.cell? ⟨gb350, 4, none⟩ = some (.int .i64 a0_4) := (bC_ BK350.out 4).trans rfl; have hcz48_5 : w47.cell? ⟨gb350, 5, none⟩ = some (.string a0_5) := (bC_ BK350.out 5).trans rfl; have hfz48_0 := bZ_ BK350.out 0; have hfz48_1 := bZ_ BK350.out 1; have hfz48_2 := bZ_ BK350.out 2; have hfz48_3 := bZ_ BK350.out 3; have hfz48_4 := bZ_ BK350.out 4; have hfz48_5 := bZ_ BK350.out 5) | (go_at_call 66; (with_reducible refine (r3_Valid.calls a0_0 false _ A2.out).mono ?_); rintro e w' ⟨rfl, ⟨nd, rfl⟩⟩; (try first | exact ⟨rfl, _, World.drewN_drewN _ _ _⟩ | exact ⟨rfl, _, Eq.trans (World.drewN_drewN _ _ _) (congrArg (World.drewN _) (Nat.add_assoc _ _ _))⟩))))
 go_ret
 exact ⟨by first | rfl | (simp [eN_, eS_] <;> rfl) | (simp [*, eN_, eS_] <;> rfl), by repeat (first | (with_reducible first | exact HB.out | apply bA_ | apply bN_ | apply b1_ | refine bS_ ?_ GE350.out) | exact HB.out)⟩
def r3_Ends.f (a0 : Int) : Option (Bool) := (r0_Between.f a0 28 33).bind fun t368 => (some t368)
set_option maxHeartbeats 8000000 in
set_option maxRecDepth 100000 in
theorem r3_Ends.calls (a0 : Int) (r : Bool) (w : World) (h : r3_Ends.f a0 = some r) :
    Calls Try.prog 40 #[.int .i64 a0] w fun e w' => e = .returned (.bool r) ∧ Dr_ w w' := by
 have H : ((r0_Between.f a0 28 33).bind fun t368 => (some t368)) = some r := h
 clear h
 replace H := Option.bind_eq_some_iff.mp H
 obtain ⟨t368, A20, H⟩ := H
 replace H : (some t368) = some r := H
 have A2 := As_.mk A20
 clear A20
 obtain rfl := Option.some.inj H
 go_enter Try.func40, Try.ntmps40
 go_wp2_with (first | ((with_reducible refine gC_ (f := 54) rfl ?_); refine goesL_ (some 4) rfl rfl Try.func54 (by kernel_rfl) rfl #[.int .i64 a0, .int .i64 28, .int .i64 33] rfl (by (try simp only [List.map_toArray, List.map_cons, List.map_nil]); first | done | rfl) ?_; (with_reducible refine (r0_Between.calls a0 28 33 t368 _ A2.out).mono ?_); rintro e w' ⟨rfl, ⟨nd, rfl⟩⟩; refine ⟨_, rfl, ?_⟩))
 go_ret
 exact ⟨by first | rfl | (simp; done) | (simp [*]; done) | (simp [wrap64]; done) | (congr 1; rw [Bool.eq_iff_iff]; simp; done), by repeat (first | exact Dr_.refl _ | apply Dr_.step)⟩
end Go.Proofs.Ytibfkkjkahpobaa.PDag
