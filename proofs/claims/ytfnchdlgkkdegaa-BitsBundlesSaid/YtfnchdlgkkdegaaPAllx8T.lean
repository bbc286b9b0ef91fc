-- the texts that this claim needs, out of this session's and its print's (wip/shrink.py)
import Derived.Test.YtfnchdlgkkdegaaPAllx0T
import Derived.Test.YtfnchdlgkkdegaaPAllx6T
import Derived.Test.YtfnchdlgkkdegaaPAllx7T
namespace Go.Proofs.Ytfnchdlgkkdegaa.PAll
open Go.RowKit Go.Proofs.YtfnchdlgkkdegaaW.PrintWords Go.Proofs.YtfnchdlgkkdegaaW.PrintLast Go.Proofs.YtfnchdlgkkdegaaW.PrintMore
attribute [local go_sem] max2_int min2_int max_two min_two max_three min_three max_four min_four   -- for this text's walks alone
set_option linter.unusedVariables false
set_option linter.unusedSimpArgs false
def r3_Ins.j0 : Nat → Int → Bool → Int → Int → Int → Int → Int → ByteArray → Option (Bool)
  | 0, _, _, _, _, _, _, _, _ => none
  | k + 1, x3, x32, x137a, x137b, x137c, x137d, x137e, x137f => if x32 = true then (some false) else (if x137f.toList = ([] : List UInt8) then ((r3_Target.f x3).bind fun t149 => (if t149 = true then ((r0_Num.f x137e 1023).bind fun t150 => (some t150)) else ((r3_Bits.f k x3).bind fun t151 => (if t151 > 0 then ((r3_Bits.f k x3).bind fun t152 => ((r1_Fits.f x137e t151).bind fun t153 => (some t153))) else (some (x137e == 0)))))) else ((r3_Name.f k x137f).bind fun t145 => (if t145 = true then (if x137a = 23 then ((r1_Fits.f x137e 18).bind fun t146 => (if t146 = true then (some true) else ((r3_Target.f x3).bind fun t147 => (if t147 = true then (some (x137e == 0)) else (some false))))) else ((r3_Target.f x3).bind fun t148 => (if t148 = true then (some (x137e == 0)) else (some false)))) else (some false))))
def r3_Ins.f (k : Nat) (a0_0 : Int) (a0_1 : Int) (a0_2 : Int) (a0_3 : Int) (a0_4 : Int) (a0_5 : ByteArray) : Option (Bool) := (r3_Valid.f a0_0).bind fun t137 => (if t137 = true then ((r3_Form.f a0_0).bind fun t138 => ((r3_HasD.f t138).bind fun t139 => ((r3_reg.f a0_1 t139).bind fun t140 => (if t140 = true then ((r3_HasA.f t138).bind fun t141 => ((r3_reg.f a0_2 t141).bind fun t142 => (if t142 = true then ((r3_HasB.f t138).bind fun t143 => ((r3_reg.f a0_3 t143).bind fun t144 => (r3_Ins.j0 k t138 (!t144) a0_0 a0_1 a0_2 a0_3 a0_4 a0_5))) else (r3_Ins.j0 k t138 true a0_0 a0_1 a0_2 a0_3 a0_4 a0_5)))) else (r3_Ins.j0 k t138 true a0_0 a0_1 a0_2 a0_3 a0_4 a0_5))))) else (some false))
set_option maxHeartbeats 8000000 in
set_option maxRecDepth 100000 in
theorem r3_Ins.calls (k : Nat) (a0_0 : Int) (a0_1 : Int) (a0_2 : Int) (a0_3 : Int) (a0_4 : Int) (a0_5 : ByteArray) (r : Bool) (w : World) (h : r3_Ins.f k a0_0 a0_1 a0_2 a0_3 a0_4 a0_5 = some r) :
    Calls Try.prog 9 #[.agg #[.int .i64 a0_0, .int .i64 a0_1, .int .i64 a0_2, .int .i64 a0_3, .int .i64 a0_4, .string a0_5]] w fun e w' => e = .returned (.bool r) ∧ Below w.heap.size w w' := by
 have hu35 := Try.underlying35
 have HB := As_.mk (Below.refl w.heap.size w)
 have H : ((r3_Valid.f a0_0).bind fun t137 => (if t137 = true then ((r3_Form.f a0_0).bind fun t138 => ((r3_HasD.f t138).bind fun t139 => ((r3_reg.f a0_1 t139).bind fun t140 => (if t140 = true then ((r3_HasA.f t138).bind fun t141 => ((r3_reg.f a0_2 t141).bind fun t142 => (if t142 = true then ((r3_HasB.f t138).bind fun t143 => ((r3_reg.f a0_3 t143).bind fun t144 => (r3_Ins.j0 k t138 (!t144) a0_0 a0_1 a0_2 a0_3 a0_4 a0_5))) else (r3_Ins.j0 k t138 true a0_0 a0_1 a0_2 a0_3 a0_4 a0_5)))) else (r3_Ins.j0 k t138 true a0_0 a0_1 a0_2 a0_3 a0_4 a0_5))))) else (some false))) = some r := h
 clear h
 replace H := Option.bind_eq_some_iff.mp H
 obtain ⟨t137, A20, H⟩ := H
 replace H : (if t137 = true then ((r3_Form.f a0_0).bind fun t138 => ((r3_HasD.f t138).bind fun t139 => ((r3_reg.f a0_1 t139).bind fun t140 => (if t140 = true then ((r3_HasA.f t138).bind fun t141 => ((r3_reg.f a0_2 t141).bind fun t142 => (if t142 = true then ((r3_HasB.f t138).bind fun t143 => ((r3_reg.f a0_3 t143).bind fun t144 => (r3_Ins.j0 k t138 (!t144) a0_0 a0_1 a0_2 a0_3 a0_4 a0_5))) else (r3_Ins.j0 k t138 true a0_0 a0_1 a0_2 a0_3 a0_4 a0_5)))) else (r3_Ins.j0 k t138 true a0_0 a0_1 a0_2 a0_3 a0_4 a0_5))))) else (some false)) = some r := H
 have A2 := As_.mk A20
 clear A20
 by_cases c3 : t137 = true
 ·subst c3
  have H1 : ((r3_Form.f a0_0).bind fun t138 => ((r3_HasD.f t138).bind fun t139 => ((r3_reg.f a0_1 t139).bind fun t140 => (if t140 = true then ((r3_HasA.f t138).bind fun t141 => ((r3_reg.f a0_2 t141).bind fun t142 => (if t142 = true then ((r3_HasB.f t138).bind fun t143 => ((r3_reg.f a0_3 t143).bind fun t144 => (r3_Ins.j0 k t138 (!t144) a0_0 a0_1 a0_2 a0_3 a0_4 a0_5))) else (r3_Ins.j0 k t138 true a0_0 a0_1 a0_2 a0_3 a0_4 a0_5)))) else (r3_Ins.j0 k t138 true a0_0 a0_1 a0_2 a0_3 a0_4 a0_5))))) = some r := by rw [if_pos rfl] at H; exact H
  clear H
  have H := H1
  clear H1
  replace H := Option.bind_eq_some_iff.mp H
  obtain ⟨t138, A40, H⟩ := H
  replace H : ((r3_HasD.f t138).bind fun t139 => ((r3_reg.f a0_1 t139).bind fun t140 => (if t140 = true then ((r3_HasA.f t138).bind fun t141 => ((r3_reg.f a0_2 t141).bind fun t142 => (if t142 = true then ((r3_HasB.f t138).bind fun t143 => ((r3_reg.f a0_3 t143).bind fun t144 => (r3_Ins.j0 k t138 (!t144) a0_0 a0_1 a0_2 a0_3 a0_4 a0_5))) else (r3_Ins.j0 k t138 true a0_0 a0_1 a0_2 a0_3 a0_4 a0_5)))) else (r3_Ins.j0 k t138 true a0_0 a0_1 a0_2 a0_3 a0_4 a0_5)))) = some r := H
  have A4 := As_.mk A40
  clear A40
  have HC5 := As_.mk H
  clear H
  go_enter Try.func9, Try.ntmps9
  go_upto_region 4 with (first | ((with_reducible refine gate_dst (N := 1) rfl ?_); refine box_event ?hg (N := 1) ?hd (cs := #[.int .i64 a0_0, .int .i64 a0_1, .int .i64 a0_2, .int .i64 a0_3, .int .i64 a0_4, .string a0_5]) (t := 35) ?hr ?_; (case hd => rfl); (case hg => rfl); (case hr => first | (go_simp; done) | (go_simp; rfl)); intro gb136 hg w6 hbox hb; have n0_ := As_.mk (bT_ (by repeat (first | (with_reducible first | exact HB.out | apply bA_ | apply bN_ | apply b1_) | exact HB.out)) hb); have n1_ := As_.mk (hbox); have n2_ := As_.mk ((by rw [hg]; exact (bY_ (by repeat (first | (with_reducible first | exact HB.out | apply bA_ | apply bN_ | apply b1_) | exact HB.out))) : w.heap.size ≤ gb136)); have n3_ := As_.mk ((by rw [hg]; exact (bY_ (by repeat (first | (with_reducible first | exact HB.out | apply bA_ | apply bN_ | apply b1_) | exact HB.out))) : w.heap.size ≤ gb136)); clear HB; have HB := n0_; have BK136 := n1_; have GW136 := n2_; have GE136 := n3_; clear n0_ n1_ n2_ n3_; clear hb hbox hg; have hcz7_0 : w6.cell? ⟨gb136, 0, none⟩ = some (.int .i64 a0_0) := (bC_ BK136.out 0).trans rfl; have hcz7_1 : w6.cell? ⟨gb136, 1, none⟩ = some (.int .i64 a0_1) := (bC_ BK136.out 1).trans rfl; have hcz7_2 : w6.cell? ⟨gb136, 2, none⟩ = some (.int .i64 a0_2) := (bC_ BK136.out 2).trans rfl; have hcz7_3 : w6.cell? ⟨gb136, 3, none⟩ = some (.int .i64 a0_3) := (bC_ BK136.out 3).trans rfl; have hcz7_4 : w6.cell? ⟨gb136, 4, none⟩ = some (.int .i64 a0_4) := (bC_ BK136.out 4).trans rfl; have hcz7_5 : w6.cell? ⟨gb136, 5, none⟩ = some (.string a0_5) := (bC_ BK136.out 5).trans rfl; have hfz7_0 := bZ_ BK136.out 0; have hfz7_1 := bZ_ BK136.out 1; have hfz7_2 := bZ_ BK136.out 2; have hfz7_3 := bZ_ BK136.out 3; have hfz7_4 := bZ_ BK136.out 4; have hfz7_5 := bZ_ BK136.out 5) | (go_at_call 30; (with_reducible refine (r3_Valid.calls a0_0 true _ A2.out).mono ?_); rintro e w' ⟨rfl, ⟨nd, rfl⟩⟩; (try first | exact ⟨rfl, _, World.drewN_drewN _ _ _⟩ | exact ⟨rfl, _, Eq.trans (World.drewN_drewN _ _ _) (congrArg (World.drewN _) (Nat.add_assoc _ _ _))⟩)) | (go_at_call 15; (with_reducible refine (r3_Form.calls a0_0 t138 _ A4.out).mono ?_); rintro e w8 ⟨rfl, hb⟩; have n0_ := As_.mk (kB_ (g := gb136) (o := .cells #[.int .i64 a0_0, .int .i64 a0_1, .int .i64 a0_2, .int .i64 a0_3, .int .i64 a0_4, .string a0_5] 35 (0, 0)) (by (with_reducible repeat (first | refine kN_ ?_ _ | refine kD_ ?_ | refine kA_ ?_ _)); exact BK136.out) hb); have n1_ := As_.mk (bT_ (by repeat (first | (with_reducible first | exact HB.out | apply bA_ | apply bN_ | apply b1_ | refine bS_ ?_ GE136.out) | exact HB.out)) hb); clear BK136; clear HB; have BK136 := n0_; have HB := n1_; clear n0_ n1_))
  repeat (go_quiet (first | ((with_reducible refine gate_dst (N := 1) rfl ?_); refine box_event ?hg (N := 1) ?hd (cs := #[.int .i64 a0_0, .int .i64 a0_1, .int .i64 a0_2, .int .i64 a0_3, .int .i64 a0_4, .string a0_5]) (t := 35) ?hr ?_; (case hd => rfl); (case hg => rfl); (case hr => first | (go_simp; done) | (go_simp; rfl)); intro gb136 hg w6 hbox hb; have n0_ := As_.mk (bT_ (by repeat (first | (with_reducible first | exact HB.out | apply bA_ | apply bN_ | apply b1_) | exact HB.out)) hb); have n1_ := As_.mk (hbox); have n2_ := As_.mk ((by rw [hg]; exact (bY_ (by repeat (first | (with_reducible first | exact HB.out | apply bA_ | apply bN_ | apply b1_) | exact HB.out))) : w.heap.size ≤ gb136)); have n3_ := As_.mk ((by rw [hg]; exact (bY_ (by repeat (first | (with_reducible first | exact HB.out | apply bA_ | apply bN_ | apply b1_) | exact HB.out))) : w.heap.size ≤ gb136)); clear HB; have HB := n0_; have BK136 := n1_; have GW136 := n2_; have GE136 := n3_; clear n0_ n1_ n2_ n3_; clear hb hbox hg; have hcz7_0 : w6.cell? ⟨gb136, 0, none⟩ = some (.int .i64 a0_0) := (bC_ BK136.out 0).trans rfl; have hcz7_1 : w6.cell? ⟨gb136, 1, none⟩ = some (.int .i64 a0_1) := (bC_ BK136.out 1).trans rfl; have hcz7_2 : w6.cell? ⟨gb136, 2, none⟩ = some (.int .i64 a0_2) := (bC_ BK136.out 2).trans rfl; have hcz7_3 : w6.cell? ⟨gb136, 3, none⟩ = some (.int .i64 a0_3) := (bC_ BK136.out 3).trans rfl; have hcz7_4 : w6.cell? ⟨gb136, 4, none⟩ = some (.int .i64 a0_4) := (bC_ BK136.out 4).trans rfl; have hcz7_5 : w6.cell? ⟨gb136, 5, none⟩ = some (.string a0_5) := (bC_ BK136.out 5).trans rfl; have hfz7_0 := bZ_ BK136.out 0; have hfz7_1 := bZ_ BK136.out 1; have hfz7_2 := bZ_ BK136.out 2; have hfz7_3 := bZ_ BK136.out 3; have hfz7_4 := bZ_ BK136.out 4; have hfz7_5 := bZ_ BK136.out 5) | (go_at_call 30; (with_reducible refine (r3_Valid.calls a0_0 true _ A2.out).mono ?_); rintro e w' ⟨rfl, ⟨nd, rfl⟩⟩; (try first | exact ⟨rfl, _, World.drewN_drewN _ _ _⟩ | exact ⟨rfl, _, Eq.trans (World.drewN_drewN _ _ _) (congrArg (World.drewN _) (Nat.add_assoc _ _ _))⟩)) | (go_at_call 15; (with_reducible refine (r3_Form.calls a0_0 t138 _ A4.out).mono ?_); rintro e w8 ⟨rfl, hb⟩; have n0_ := As_.mk (kB_ (g := gb136) (o := .cells #[.int .i64 a0_0, .int .i64 a0_1, .int .i64 a0_2, .int .i64 a0_3, .int .i64 a0_4, .string a0_5] 35 (0, 0)) (by (with_reducible repeat (first | refine kN_ ?_ _ | refine kD_ ?_ | refine kA_ ?_ _)); exact BK136.out) hb); have n1_ := As_.mk (bT_ (by repeat (first | (with_reducible first | exact HB.out | apply bA_ | apply bN_ | apply b1_ | refine bS_ ?_ GE136.out) | exact HB.out)) hb); clear BK136; clear HB; have BK136 := n0_; have HB := n1_; clear n0_ n1_)); go_upto_region 4 with (first | ((with_reducible refine gate_dst (N := 1) rfl ?_); refine box_event ?hg (N := 1) ?hd (cs := #[.int .i64 a0_0, .int .i64 a0_1, .int .i64 a0_2, .int .i64 a0_3, .int .i64 a0_4, .string a0_5]) (t := 35) ?hr ?_; (case hd => rfl); (case hg => rfl); (case hr => first | (go_simp; done) | (go_simp; rfl)); intro gb136 hg w6 hbox hb; have n0_ := As_.mk (bT_ (by repeat (first | (with_reducible first | exact HB.out | apply bA_ | apply bN_ | apply b1_) | exact HB.out)) hb); have n1_ := As_.mk (hbox); have n2_ := As_.mk ((by rw [hg]; exact (bY_ (by repeat (first | (with_reducible first | exact HB.out | apply bA_ | apply bN_ | apply b1_) | exact HB.out))) : w.heap.size ≤ gb136)); have n3_ := As_.mk ((by rw [hg]; exact (bY_ (by repeat (first | (with_reducible first | exact HB.out | apply bA_ | apply bN_ | apply b1_) | exact HB.out))) : w.heap.size ≤ gb136)); clear HB; have HB := n0_; have BK136 := n1_; have GW136 := n2_; have GE136 := n3_; clear n0_ n1_ n2_ n3_; clear hb hbox hg; have hcz7_0 : w6.cell? ⟨gb136, 0, none⟩ = some (.int .i64 a0_0) := (bC_ BK136.out 0).trans rfl; have hcz7_1 : w6.cell? ⟨gb136, 1, none⟩ = some (.int .i64 a0_1) := (bC_ BK136.out 1).trans rfl; have hcz7_2 : w6.cell? ⟨gb136, 2, none⟩ = some (.int .i64 a0_2) := (bC_ BK136.out 2).trans rfl; have hcz7_3 : w6.cell? ⟨gb136, 3, none⟩ = some (.int .i64 a0_3) := (bC_ BK136.out 3).trans rfl; have hcz7_4 : w6.cell? ⟨gb136, 4, none⟩ = some (.int .i64 a0_4) := (bC_ BK136.out 4).trans rfl; have hcz7_5 : w6.cell? ⟨gb136, 5, none⟩ = some (.string a0_5) := (bC_ BK136.out 5).trans rfl; have hfz7_0 := bZ_ BK136.out 0; have hfz7_1 := bZ_ BK136.out 1; have hfz7_2 := bZ_ BK136.out 2; have hfz7_3 := bZ_ BK136.out 3; have hfz7_4 := bZ_ BK136.out 4; have hfz7_5 := bZ_ BK136.out 5) | (go_at_call 30; (with_reducible refine (r3_Valid.calls a0_0 true _ A2.out).mono ?_); rintro e w' ⟨rfl, ⟨nd, rfl⟩⟩; (try first | exact ⟨rfl, _, World.drewN_drewN _ _ _⟩ | exact ⟨rfl, _, Eq.trans (World.drewN_drewN _ _ _) (congrArg (World.drewN _) (Nat.add_assoc _ _ _))⟩)) | (go_at_call 15; (with_reducible refine (r3_Form.calls a0_0 t138 _ A4.out).mono ?_); rintro e w8 ⟨rfl, hb⟩; have n0_ := As_.mk (kB_ (g := gb136) (o := .cells #[.int .i64 a0_0, .int .i64 a0_1, .int .i64 a0_2, .int .i64 a0_3, .int .i64 a0_4, .string a0_5] 35 (0, 0)) (by (with_reducible repeat (first | refine kN_ ?_ _ | refine kD_ ?_ | refine kA_ ?_ _)); exact BK136.out) hb); have n1_ := As_.mk (bT_ (by repeat (first | (with_reducible first | exact HB.out | apply bA_ | apply bN_ | apply b1_ | refine bS_ ?_ GE136.out) | exact HB.out)) hb); clear BK136; clear HB; have BK136 := n0_; have HB := n1_; clear n0_ n1_)))
  (try simp only [Act.put, List.setIfInBounds_toArray, List.set_cons_zero, List.set_cons_succ])
  go_cut [32] (fun v32 wc => ∃ (kq : Nat) (x32_4 : Bool), v32 = .bool x32_4 ∧ As_ (r3_Ins.j0 kq t138 x32_4 a0_0 a0_1 a0_2 a0_3 a0_4 a0_5 = some r) ∧ As_ (kq ≤ k) ∧ As_ (wc.heap[gb136]? = some (.cells #[.int .i64 a0_0, .int .i64 a0_1, .int .i64 a0_2, .int .i64 a0_3, .int .i64 a0_4, .string a0_5] 35 (0, 0))) ∧ As_ (Below w.heap.size w wc))
  case first =>
   have H := HC5.out
   clear HC5
   replace H := Option.bind_eq_some_iff.mp H
   obtain ⟨t139, A90, H⟩ := H
   replace H : ((r3_reg.f a0_1 t139).bind fun t140 => (if t140 = true then ((r3_HasA.f t138).bind fun t141 => ((r3_reg.f a0_2 t141).bind fun t142 => (if t142 = true then ((r3_HasB.f t138).bind fun t143 => ((r3_reg.f a0_3 t143).bind fun t144 => (r3_Ins.j0 k t138 (!t144) a0_0 a0_1 a0_2 a0_3 a0_4 a0_5))) else (r3_Ins.j0 k t138 true a0_0 a0_1 a0_2 a0_3 a0_4 a0_5)))) else (r3_Ins.j0 k t138 true a0_0 a0_1 a0_2 a0_3 a0_4 a0_5))) = some r := H
   have A9 := As_.mk A90
   clear A90
   replace H := Option.bind_eq_some_iff.mp H
   obtain ⟨t140, A100, H⟩ := H
   replace H : (if t140 = true then ((r3_HasA.f t138).bind fun t141 => ((r3_reg.f a0_2 t141).bind fun t142 => (if t142 = true then ((r3_HasB.f t138).bind fun t143 => ((r3_reg.f a0_3 t143).bind fun t144 => (r3_Ins.j0 k t138 (!t144) a0_0 a0_1 a0_2 a0_3 a0_4 a0_5))) else (r3_Ins.j0 k t138 true a0_0 a0_1 a0_2 a0_3 a0_4 a0_5)))) else (r3_Ins.j0 k t138 true a0_0 a0_1 a0_2 a0_3 a0_4 a0_5)) = some r := H
   have A10 := As_.mk A100
   clear A100
   by_cases c11 : t140 = true
   ·subst c11
    have H1 : ((r3_HasA.f t138).bind fun t141 => ((r3_reg.f a0_2 t141).bind fun t142 => (if t142 = true then ((r3_HasB.f t138).bind fun t143 => ((r3_reg.f a0_3 t143).bind fun t144 => (r3_Ins.j0 k t138 (!t144) a0_0 a0_1 a0_2 a0_3 a0_4 a0_5))) else (r3_Ins.j0 k t138 true a0_0 a0_1 a0_2 a0_3 a0_4 a0_5)))) = some r := by rw [if_pos rfl] at H; exact H
    clear H
    have H := H1
    clear H1
    replace H := Option.bind_eq_some_iff.mp H
    obtain ⟨t141, A120, H⟩ := H
    replace H : ((r3_reg.f a0_2 t141).bind fun t142 => (if t142 = true then ((r3_HasB.f t138).bind fun t143 => ((r3_reg.f a0_3 t143).bind fun t144 => (r3_Ins.j0 k t138 (!t144) a0_0 a0_1 a0_2 a0_3 a0_4 a0_5))) else (r3_Ins.j0 k t138 true a0_0 a0_1 a0_2 a0_3 a0_4 a0_5))) = some r := H
    have A12 := As_.mk A120
    clear A120
    replace H := Option.bind_eq_some_iff.mp H
    obtain ⟨t142, A130, H⟩ := H
    replace H : (if t142 = true then ((r3_HasB.f t138).bind fun t143 => ((r3_reg.f a0_3 t143).bind fun t144 => (r3_Ins.j0 k t138 (!t144) a0_0 a0_1 a0_2 a0_3 a0_4 a0_5))) else (r3_Ins.j0 k t138 true a0_0 a0_1 a0_2 a0_3 a0_4 a0_5)) = some r := H
    have A13 := As_.mk A130
    clear A130
    by_cases c14 : t142 = true
    ·subst c14
     have H1 : ((r3_HasB.f t138).bind fun t143 => ((r3_reg.f a0_3 t143).bind fun t144 => (r3_Ins.j0 k t138 (!t144) a0_0 a0_1 a0_2 a0_3 a0_4 a0_5))) = some r := by rw [if_pos rfl] at H; exact H
     clear H
     have H := H1
     clear H1
     replace H := Option.bind_eq_some_iff.mp H
     obtain ⟨t143, A150, H⟩ := H
     replace H : ((r3_reg.f a0_3 t143).bind fun t144 => (r3_Ins.j0 k t138 (!t144) a0_0 a0_1 a0_2 a0_3 a0_4 a0_5)) = some r := H
     have A15 := As_.mk A150
     clear A150
     replace H := Option.bind_eq_some_iff.mp H
     obtain ⟨t144, A160, H⟩ := H
     replace H : (r3_Ins.j0 k t138 (!t144) a0_0 a0_1 a0_2 a0_3 a0_4 a0_5) = some r := H
     have A16 := As_.mk A160
     clear A160
     have H' := As_.mk H
     clear H
     have hcz17_0 : w8.cell? ⟨gb136, 0, none⟩ = some (.int .i64 a0_0) := (bC_ BK136.out 0).trans rfl
     have hcz17_1 : w8.cell? ⟨gb136, 1, none⟩ = some (.int .i64 a0_1) := (bC_ BK136.out 1).trans rfl
     have hcz17_2 : w8.cell? ⟨gb136, 2, none⟩ = some (.int .i64 a0_2) := (bC_ BK136.out 2).trans rfl
     have hcz17_3 : w8.cell? ⟨gb136, 3, none⟩ = some (.int .i64 a0_3) := (bC_ BK136.out 3).trans rfl
     have hcz17_4 : w8.cell? ⟨gb136, 4, none⟩ = some (.int .i64 a0_4) := (bC_ BK136.out 4).trans rfl
     have hcz17_5 : w8.cell? ⟨gb136, 5, none⟩ = some (.string a0_5) := (bC_ BK136.out 5).trans rfl
     have hfz17_0 := bZ_ BK136.out 0
     have hfz17_1 := bZ_ BK136.out 1
     have hfz17_2 := bZ_ BK136.out 2
     have hfz17_3 := bZ_ BK136.out 3
     have hfz17_4 := bZ_ BK136.out 4
     have hfz17_5 := bZ_ BK136.out 5
     go_wp2_with (first | (go_at_call 16; (with_reducible refine (r3_HasD.calls t138 t139 _ A9.out).mono ?_); rintro e w' ⟨rfl, ⟨nd, rfl⟩⟩; (try first | exact ⟨rfl, _, World.drewN_drewN _ _ _⟩ | exact ⟨rfl, _, Eq.trans (World.drewN_drewN _ _ _) (congrArg (World.drewN _) (Nat.add_assoc _ _ _))⟩)) | (go_at_call 31; (with_reducible refine (r3_reg.calls a0_1 t139 true _ A10.out).mono ?_); rintro e w' ⟨rfl, ⟨nd, rfl⟩⟩; (try first | exact ⟨rfl, _, World.drewN_drewN _ _ _⟩ | exact ⟨rfl, _, Eq.trans (World.drewN_drewN _ _ _) (congrArg (World.drewN _) (Nat.add_assoc _ _ _))⟩)) | (go_at_call 17; (with_reducible refine (r3_HasA.calls t138 t141 _ A12.out).mono ?_); rintro e w' ⟨rfl, ⟨nd, rfl⟩⟩; (try first | exact ⟨rfl, _, World.drewN_drewN _ _ _⟩ | exact ⟨rfl, _, Eq.trans (World.drewN_drewN _ _ _) (congrArg (World.drewN _) (Nat.add_assoc _ _ _))⟩)) | (go_at_call 31; (with_reducible refine (r3_reg.calls a0_2 t141 true _ A13.out).mono ?_); rintro e w' ⟨rfl, ⟨nd, rfl⟩⟩; (try first | exact ⟨rfl, _, World.drewN_drewN _ _ _⟩ | exact ⟨rfl, _, Eq.trans (World.drewN_drewN _ _ _) (congrArg (World.drewN _) (Nat.add_assoc _ _ _))⟩)) | (go_at_call 18; (with_reducible refine (r3_HasB.calls t138 t143 _ A15.out).mono ?_); rintro e w' ⟨rfl, ⟨nd, rfl⟩⟩; (try first | exact ⟨rfl, _, World.drewN_drewN _ _ _⟩ | exact ⟨rfl, _, Eq.trans (World.drewN_drewN _ _ _) (congrArg (World.drewN _) (Nat.add_assoc _ _ _))⟩)) | (go_at_call 31; (with_reducible refine (r3_reg.calls a0_3 t143 t144 _ A16.out).mono ?_); rintro e w' ⟨rfl, ⟨nd, rfl⟩⟩; (try first | exact ⟨rfl, _, World.drewN_drewN _ _ _⟩ | exact ⟨rfl, _, Eq.trans (World.drewN_drewN _ _ _) (congrArg (World.drewN _) (Nat.add_assoc _ _ _))⟩)))
     repeat (go_quiet (first | (go_at_call 16; (with_reducible refine (r3_HasD.calls t138 t139 _ A9.out).mono ?_); rintro e w' ⟨rfl, ⟨nd, rfl⟩⟩; (try first | exact ⟨rfl, _, World.drewN_drewN _ _ _⟩ | exact ⟨rfl, _, Eq.trans (World.drewN_drewN _ _ _) (congrArg (World.drewN _) (Nat.add_assoc _ _ _))⟩)) | (go_at_call 31; (with_reducible refine (r3_reg.calls a0_1 t139 true _ A10.out).mono ?_); rintro e w' ⟨rfl, ⟨nd, rfl⟩⟩; (try first | exact ⟨rfl, _, World.drewN_drewN _ _ _⟩ | exact ⟨rfl, _, Eq.trans (World.drewN_drewN _ _ _) (congrArg (World.drewN _) (Nat.add_assoc _ _ _))⟩)) | (go_at_call 17; (with_reducible refine (r3_HasA.calls t138 t141 _ A12.out).mono ?_); rintro e w' ⟨rfl, ⟨nd, rfl⟩⟩; (try first | exact ⟨rfl, _, World.drewN_drewN _ _ _⟩ | exact ⟨rfl, _, Eq.trans (World.drewN_drewN _ _ _) (congrArg (World.drewN _) (Nat.add_assoc _ _ _))⟩)) | (go_at_call 31; (with_reducible refine (r3_reg.calls a0_2 t141 true _ A13.out).mono ?_); rintro e w' ⟨rfl, ⟨nd, rfl⟩⟩; (try first | exact ⟨rfl, _, World.drewN_drewN _ _ _⟩ | exact ⟨rfl, _, Eq.trans (World.drewN_drewN _ _ _) (congrArg (World.drewN _) (Nat.add_assoc _ _ _))⟩)) | (go_at_call 18; (with_reducible refine (r3_HasB.calls t138 t143 _ A15.out).mono ?_); rintro e w' ⟨rfl, ⟨nd, rfl⟩⟩; (try first | exact ⟨rfl, _, World.drewN_drewN _ _ _⟩ | exact ⟨rfl, _, Eq.trans (World.drewN_drewN _ _ _) (congrArg (World.drewN _) (Nat.add_assoc _ _ _))⟩)) | (go_at_call 31; (with_reducible refine (r3_reg.calls a0_3 t143 t144 _ A16.out).mono ?_); rintro e w' ⟨rfl, ⟨nd, rfl⟩⟩; (try first | exact ⟨rfl, _, World.drewN_drewN _ _ _⟩ | exact ⟨rfl, _, Eq.trans (World.drewN_drewN _ _ _) (congrArg (World.drewN _) (Nat.add_assoc _ _ _))⟩))); try go_wp2_with (first | (go_at_call 16; (with_reducible refine (r3_HasD.calls t138 t139 _ A9.out).mono ?_); rintro e w' ⟨rfl, ⟨nd, rfl⟩⟩; (try first | exact ⟨rfl, _, World.drewN_drewN _ _ _⟩ | exact ⟨rfl, _, Eq.trans (World.drewN_drewN _ _ _) (congrArg (World.drewN _) (Nat.add_assoc _ _ _))⟩)) | (go_at_call 31; (with_reducible refine (r3_reg.calls a0_1 t139 true _ A10.out).mono ?_); rintro e w' ⟨rfl, ⟨nd, rfl⟩⟩; (try first | exact ⟨rfl, _, World.drewN_drewN _ _ _⟩ | exact ⟨rfl, _, Eq.trans (World.drewN_drewN _ _ _) (congrArg (World.drewN _) (Nat.add_assoc _ _ _))⟩)) | (go_at_call 17; (with_reducible refine (r3_HasA.calls t138 t141 _ A12.out).mono ?_); rintro e w' ⟨rfl, ⟨nd, rfl⟩⟩; (try first | exact ⟨rfl, _, World.drewN_drewN _ _ _⟩ | exact ⟨rfl, _, Eq.trans (World.drewN_drewN _ _ _) (congrArg (World.drewN _) (Nat.add_assoc _ _ _))⟩)) | (go_at_call 31; (with_reducible refine (r3_reg.calls a0_2 t141 true _ A13.out).mono ?_); rintro e w' ⟨rfl, ⟨nd, rfl⟩⟩; (try first | exact ⟨rfl, _, World.drewN_drewN _ _ _⟩ | exact ⟨rfl, _, Eq.trans (World.drewN_drewN _ _ _) (congrArg (World.drewN _) (Nat.add_assoc _ _ _))⟩)) | (go_at_call 18; (with_reducible refine (r3_HasB.calls t138 t143 _ A15.out).mono ?_); rintro e w' ⟨rfl, ⟨nd, rfl⟩⟩; (try first | exact ⟨rfl, _, World.drewN_drewN _ _ _⟩ | exact ⟨rfl, _, Eq.trans (World.drewN_drewN _ _ _) (congrArg (World.drewN _) (Nat.add_assoc _ _ _))⟩)) | (go_at_call 31; (with_reducible refine (r3_reg.calls a0_3 t143 t144 _ A16.out).mono ?_); rintro e w' ⟨rfl, ⟨nd, rfl⟩⟩; (try first | exact ⟨rfl, _, World.drewN_drewN _ _ _⟩ | exact ⟨rfl, _, Eq.trans (World.drewN_drewN _ _ _) (congrArg (World.drewN _) (Nat.add_assoc _ _ _))⟩))))
     go_meet
     case rel => exact ⟨_, (!t144), (by first | rfl | (simp; done) | (simp [*]; done) | (simp [wrap64]; done) | (congr 1; rw [Bool.eq_iff_iff]; simp; done)), H', ⟨by first | omega | exact Nat.le_refl _⟩, ⟨by (with_reducible repeat (first | refine kN_ ?_ _ | refine kD_ ?_ | refine kA_ ?_ _)); exact BK136.out⟩, ⟨by repeat (first | (with_reducible first | exact HB.out | apply bA_ | apply bN_ | apply b1_ | refine bS_ ?_ GE136.out) | exact HB.out)⟩⟩
    replace c14 := Bool.eq_false_iff.mpr c14
    subst c14
    have H1 : (r3_Ins.j0 k t138 true a0_0 a0_1 a0_2 a0_3 a0_4 a0_5) = some r := by rw [if_neg (show ¬ (false = true) by decide)] at H; exact H
    clear H
    have H := H1
    clear H1
    have H' := As_.mk H
    clear H
    have hcz18_0 : w8.cell? ⟨gb136, 0, none⟩ = some (.int .i64 a0_0) := (bC_ BK136.out 0).trans rfl
    have hcz18_1 : w8.cell? ⟨gb136, 1, none⟩ = some (.int .i64 a0_1) := (bC_ BK136.out 1).trans rfl
    have hcz18_2 : w8.cell? ⟨gb136, 2, none⟩ = some (.int .i64 a0_2) := (bC_ BK136.out 2).trans rfl
    have hcz18_3 : w8.cell? ⟨gb136, 3, none⟩ = some (.int .i64 a0_3) := (bC_ BK136.out 3).trans rfl
    have hcz18_4 : w8.cell? ⟨gb136, 4, none⟩ = some (.int .i64 a0_4) := (bC_ BK136.out 4).trans rfl
    have hcz18_5 : w8.cell? ⟨gb136, 5, none⟩ = some (.string a0_5) := (bC_ BK136.out 5).trans rfl
    have hfz18_0 := bZ_ BK136.out 0
    have hfz18_1 := bZ_ BK136.out 1
    have hfz18_2 := bZ_ BK136.out 2
    have hfz18_3 := bZ_ BK136.out 3
    have hfz18_4 := bZ_ BK136.out 4
    have hfz18_5 := bZ_ BK136.out 5
    go_wp2_with (first | (go_at_call 16; (with_reducible refine (r3_HasD.calls t138 t139 _ A9.out).mono ?_); rintro e w' ⟨rfl, ⟨nd, rfl⟩⟩; (try first | exact ⟨rfl, _, World.drewN_drewN _ _ _⟩ | exact ⟨rfl, _, Eq.trans (World.drewN_drewN _ _ _) (congrArg (World.drewN _) (Nat.add_assoc _ _ _))⟩)) | (go_at_call 31; (with_reducible refine (r3_reg.calls a0_1 t139 true _ A10.out).mono ?_); rintro e w' ⟨rfl, ⟨nd, rfl⟩⟩; (try first | exact ⟨rfl, _, World.drewN_drewN _ _ _⟩ | exact ⟨rfl, _, Eq.trans (World.drewN_drewN _ _ _) (congrArg (World.drewN _) (Nat.add_assoc _ _ _))⟩)) | (go_at_call 17; (with_reducible refine (r3_HasA.calls t138 t141 _ A12.out).mono ?_); rintro e w' ⟨rfl, ⟨nd, rfl⟩⟩; (try first | exact ⟨rfl, _, World.drewN_drewN _ _ _⟩ | exact ⟨rfl, _, Eq.trans (World.drewN_drewN _ _ _) (congrArg (World.drewN _) (Nat.add_assoc _ _ _))⟩)) | (go_at_call 31; (with_reducible refine (r3_reg.calls a0_2 t141 false _ A13.out).mono ?_); rintro e w' ⟨rfl, ⟨nd, rfl⟩⟩; (try first | exact ⟨rfl, _, World.drewN_drewN _ _ _⟩ | exact ⟨rfl, _, Eq.trans (World.drewN_drewN _ _ _) (congrArg (World.drewN _) (Nat.add_assoc _ _ _))⟩)))
    repeat (go_quiet (first | (go_at_call 16; (with_reducible refine (r3_HasD.calls t138 t139 _ A9.out).mono ?_); rintro e w' ⟨rfl, ⟨nd, rfl⟩⟩; (try first | exact ⟨rfl, _, World.drewN_drewN _ _ _⟩ | exact ⟨rfl, _, Eq.trans (World.drewN_drewN _ _ _) (congrArg (World.drewN _) (Nat.add_assoc _ _ _))⟩)) | (go_at_call 31; (with_reducible refine (r3_reg.calls a0_1 t139 true _ A10.out).mono ?_); rintro e w' ⟨rfl, ⟨nd, rfl⟩⟩; (try first | exact ⟨rfl, _, World.drewN_drewN _ _ _⟩ | exact ⟨rfl, _, Eq.trans (World.drewN_drewN _ _ _) (congrArg (World.drewN _) (Nat.add_assoc _ _ _))⟩)) | (go_at_call 17; (with_reducible refine (r3_HasA.calls t138 t141 _ A12.out).mono ?_); rintro e w' ⟨rfl, ⟨nd, rfl⟩⟩; (try first | exact ⟨rfl, _, World.drewN_drewN _ _ _⟩ | exact ⟨rfl, _, Eq.trans (World.drewN_drewN _ _ _) (congrArg (World.drewN _) (Nat.add_assoc _ _ _))⟩)) | (go_at_call 31; (with_reducible refine (r3_reg.calls a0_2 t141 false _ A13.out).mono ?_); rintro e w' ⟨rfl, ⟨nd, rfl⟩⟩; (try first | exact ⟨rfl, _, World.drewN_drewN _ _ _⟩ | exact ⟨rfl, _, Eq.trans (World.drewN_drewN _ _ _) (congrArg (World.drewN _) (Nat.add_assoc _ _ _))⟩))); try go_wp2_with (first | (go_at_call 16; (with_reducible refine (r3_HasD.calls t138 t139 _ A9.out).mono ?_); rintro e w' ⟨rfl, ⟨nd, rfl⟩⟩; (try first | exact ⟨rfl, _, World.drewN_drewN _ _ _⟩ | exact ⟨rfl, _, Eq.trans (World.drewN_drewN _ _ _) (congrArg (World.drewN _) (Nat.add_assoc _ _ _))⟩)) | (go_at_call 31; (with_reducible refine (r3_reg.calls a0_1 t139 true _ A10.out).mono ?_); rintro e w' ⟨rfl, ⟨nd, rfl⟩⟩; (try first | exact ⟨rfl, _, World.drewN_drewN _ _ _⟩ | exact ⟨rfl, _, Eq.trans (World.drewN_drewN _ _ _) (congrArg (World.drewN _) (Nat.add_assoc _ _ _))⟩)) | (go_at_call 17; (with_reducible refine (r3_HasA.calls t138 t141 _ A12.out).mono ?_); rintro e w' ⟨rfl, ⟨nd, rfl⟩⟩; (try first | exact ⟨rfl, _, World.drewN_drewN _ _ _⟩ | exact ⟨rfl, _, Eq.trans (World.drewN_drewN _ _ _) (congrArg (World.drewN _) (Nat.add_assoc _ _ _))⟩)) | (go_at_call 31; (with_reducible refine (r3_reg.calls a0_2 t141 false _ A13.out).mono ?_); rintro e w' ⟨rfl, ⟨nd, rfl⟩⟩; (try first | exact ⟨rfl, _, World.drewN_drewN _ _ _⟩ | exact ⟨rfl, _, Eq.trans (World.drewN_drewN _ _ _) (congrArg (World.drewN _) (Nat.add_assoc _ _ _))⟩))))
    go_meet
    case rel => exact ⟨_, (true), (by first | rfl | (simp; done) | (simp [*]; done) | (simp [wrap64]; done) | (congr 1; rw [Bool.eq_iff_iff]; simp; done)), H', ⟨by first | omega | exact Nat.le_refl _⟩, ⟨by (with_reducible repeat (first | refine kN_ ?_ _ | refine kD_ ?_ | refine kA_ ?_ _)); exact BK136.out⟩, ⟨by repeat (first | (with_reducible first | exact HB.out | apply bA_ | apply bN_ | apply b1_ | refine bS_ ?_ GE136.out) | exact HB.out)⟩⟩
   replace c11 := Bool.eq_false_iff.mpr c11
   subst c11
   have H1 : (r3_Ins.j0 k t138 true a0_0 a0_1 a0_2 a0_3 a0_4 a0_5) = some r := by rw [if_neg (show ¬ (false = true) by decide)] at H; exact H
   clear H
   have H := H1
   clear H1
   have H' := As_.mk H
   clear H
   have hcz19_0 : w8.cell? ⟨gb136, 0, none⟩ = some (.int .i64 a0_0) := (bC_ BK136.out 0).trans rfl
   have hcz19_1 : w8.cell? ⟨gb136, 1, none⟩ = some (.int .i64 a0_1) := (bC_ BK136.out 1).trans rfl
   have hcz19_2 : w8.cell? ⟨gb136, 2, none⟩ = some (.int .i64 a0_2) := (bC_ BK136.out 2).trans rfl
   have hcz19_3 : w8.cell? ⟨gb136, 3, none⟩ = some (.int .i64 a0_3) := (bC_ BK136.out 3).trans rfl
   have hcz19_4 : w8.cell? ⟨gb136, 4, none⟩ = some (.int .i64 a0_4) := (bC_ BK136.out 4).trans rfl
   have hcz19_5 : w8.cell? ⟨gb136, 5, none⟩ = some (.string a0_5) := (bC_ BK136.out 5).trans rfl
   have hfz19_0 := bZ_ BK136.out 0
   have hfz19_1 := bZ_ BK136.out 1
   have hfz19_2 := bZ_ BK136.out 2
   have hfz19_3 := bZ_ BK136.out 3
   have hfz19_4 := bZ_ BK136.out 4
   have hfz19_5 := bZ_ BK136.out 5
   go_wp2_with (first | (go_at_call 16; (with_reducible refine (r3_HasD.calls t138 t139 _ A9.out).mono ?_); rintro e w' ⟨rfl, ⟨nd, rfl⟩⟩; (try first | exact ⟨rfl, _, World.drewN_drewN _ _ _⟩ | exact ⟨rfl, _, Eq.trans (World.drewN_drewN _ _ _) (congrArg (World.drewN _) (Nat.add_assoc _ _ _))⟩)) | (go_at_call 31; (with_reducible refine (r3_reg.calls a0_1 t139 false _ A10.out).mono ?_); rintro e w' ⟨rfl, ⟨nd, rfl⟩⟩; (try first | exact ⟨rfl, _, World.drewN_drewN _ _ _⟩ | exact ⟨rfl, _, Eq.trans (World.drewN_drewN _ _ _) (congrArg (World.drewN _) (Nat.add_assoc _ _ _))⟩)))
   repeat (go_quiet (first | (go_at_call 16; (with_reducible refine (r3_HasD.calls t138 t139 _ A9.out).mono ?_); rintro e w' ⟨rfl, ⟨nd, rfl⟩⟩; (try first | exact ⟨rfl, _, World.drewN_drewN _ _ _⟩ | exact ⟨rfl, _, Eq.trans (World.drewN_drewN _ _ _) (congrArg (World.drewN _) (Nat.add_assoc _ _ _))⟩)) | (go_at_call 31; (with_reducible refine (r3_reg.calls a0_1 t139 false _ A10.out).mono ?_); rintro e w' ⟨rfl, ⟨nd, rfl⟩⟩; (try first | exact ⟨rfl, _, World.drewN_drewN _ _ _⟩ | exact ⟨rfl, _, Eq.trans (World.drewN_drewN _ _ _) (congrArg (World.drewN _) (Nat.add_assoc _ _ _))⟩))); try go_wp2_with (first | (go_at_call 16; (with_reducible refine (r3_HasD.calls t138 t139 _ A9.out).mono ?_); rintro e w' ⟨rfl, ⟨nd, rfl⟩⟩; (try first | exact ⟨rfl, _, World.drewN_drewN _ _ _⟩ | exact ⟨rfl, _, Eq.trans (World.drewN_drewN _ _ _) (congrArg (World.drewN _) (Nat.add_assoc _ _ _))⟩)) | (go_at_call 31; (with_reducible refine (r3_reg.calls a0_1 t139 false _ A10.out).mono ?_); rintro e w' ⟨rfl, ⟨nd, rfl⟩⟩; (try first | exact ⟨rfl, _, World.drewN_drewN _ _ _⟩ | exact ⟨rfl, _, Eq.trans (World.drewN_drewN _ _ _) (congrArg (World.drewN _) (Nat.add_assoc _ _ _))⟩))))
   go_meet
   case rel => exact ⟨_, (true), (by first | rfl | (simp; done) | (simp [*]; done) | (simp [wrap64]; done) | (congr 1; rw [Bool.eq_iff_iff]; simp; done)), H', ⟨by first | omega | exact Nat.le_refl _⟩, ⟨by (with_reducible repeat (first | refine kN_ ?_ _ | refine kD_ ?_ | refine kA_ ?_ _)); exact BK136.out⟩, ⟨by repeat (first | (with_reducible first | exact HB.out | apply bA_ | apply bN_ | apply b1_ | refine bS_ ?_ GE136.out) | exact HB.out)⟩⟩
  case rest =>
   clear HC5
   obtain ⟨kq, x32_4, rfl, HA, HJ4, BK136, HB⟩ := hcut
   cases kq with
   | zero => exact absurd HA.out (by simp [r3_Ins.j0])
   | succ kj4 =>
    have H := HA.out
    clear HA
    simp only [r3_Ins.j0] at H
    by_cases c20 : x32_4 = true
    ·subst c20
     have H1 : (some false) = some r := by rw [if_pos rfl] at H; exact H
     clear H
     have H := H1
     clear H1
     obtain rfl := Option.some.inj H
     go_wp2
     repeat (go_quiet (fail); try go_wp2)
     go_ret
     exact ⟨by first | rfl | (simp [eN_, eS_] <;> rfl) | (simp [*, eN_, eS_] <;> rfl), by repeat (first | (with_reducible first | exact HB.out | apply bA_ | apply bN_ | apply b1_ | refine bS_ ?_ GE136.out) | exact HB.out)⟩
    replace c20 := Bool.eq_false_iff.mpr c20
    subst c20
    have H1 : (if a0_5.toList = ([] : List UInt8) then ((r3_Target.f t138).bind fun t149 => (if t149 = true then ((r0_Num.f a0_4 1023).bind fun t150 => (some t150)) else ((r3_Bits.f kj4 t138).bind fun t151 => (if t151 > 0 then ((r3_Bits.f kj4 t138).bind fun t152 => ((r1_Fits.f a0_4 t151).bind fun t153 => (some t153))) else (some (a0_4 == 0)))))) else ((r3_Name.f kj4 a0_5).bind fun t145 => (if t145 = true then (if a0_0 = 23 then ((r1_Fits.f a0_4 18).bind fun t146 => (if t146 = true then (some true) else ((r3_Target.f t138).bind fun t147 => (if t147 = true then (some (a0_4 == 0)) else (some false))))) else ((r3_Target.f t138).bind fun t148 => (if t148 = true then (some (a0_4 == 0)) else (some false)))) else (some false)))) = some r := by rw [if_neg (show ¬ (false = true) by decide)] at H; exact H
    clear H
    have H := H1
    clear H1
    by_cases c21 : a0_5.toList = ([] : List UInt8)
    ·rw [if_pos c21] at H
     have c21b0 : (a0_5.toList == ([] : List UInt8)) = true := beq_iff_eq.mpr c21
     have c21b1 : (a0_5.toList != ([] : List UInt8)) = false := bne_eq_false_iff_eq.mpr c21
     clear c21
     replace H := Option.bind_eq_some_iff.mp H
     obtain ⟨t149, A220, H⟩ := H
     replace H : (if t149 = true then ((r0_Num.f a0_4 1023).bind fun t150 => (some t150)) else ((r3_Bits.f kj4 t138).bind fun t151 => (if t151 > 0 then ((r3_Bits.f kj4 t138).bind fun t152 => ((r1_Fits.f a0_4 t151).bind fun t153 => (some t153))) else (some (a0_4 == 0))))) = some r := H
     have A22 := As_.mk A220
     clear A220
     by_cases c23 : t149 = true
     ·subst c23
      have H1 : ((r0_Num.f a0_4 1023).bind fun t150 => (some t150)) = some r := by rw [if_pos rfl] at H; exact H
      clear H
      have H := H1
      clear H1
      replace H := Option.bind_eq_some_iff.mp H
      obtain ⟨t150, A240, H⟩ := H
      replace H : (some t150) = some r := H
      have A24 := As_.mk A240
      clear A240
      obtain rfl := Option.some.inj H
      have hcz25_0 : wc.cell? ⟨gb136, 0, none⟩ = some (.int .i64 a0_0) := (bC_ BK136.out 0).trans rfl
      have hcz25_1 : wc.cell? ⟨gb136, 1, none⟩ = some (.int .i64 a0_1) := (bC_ BK136.out 1).trans rfl
      have hcz25_2 : wc.cell? ⟨gb136, 2, none⟩ = some (.int .i64 a0_2) := (bC_ BK136.out 2).trans rfl
      have hcz25_3 : wc.cell? ⟨gb136, 3, none⟩ = some (.int .i64 a0_3) := (bC_ BK136.out 3).trans rfl
      have hcz25_4 : wc.cell? ⟨gb136, 4, none⟩ = some (.int .i64 a0_4) := (bC_ BK136.out 4).trans rfl
      have hcz25_5 : wc.cell? ⟨gb136, 5, none⟩ = some (.string a0_5) := (bC_ BK136.out 5).trans rfl
      have hfz25_0 := bZ_ BK136.out 0
      have hfz25_1 := bZ_ BK136.out 1
      have hfz25_2 := bZ_ BK136.out 2
      have hfz25_3 := bZ_ BK136.out 3
      have hfz25_4 := bZ_ BK136.out 4
      have hfz25_5 := bZ_ BK136.out 5
      go_wp2_with (first | (go_at_call 20; (with_reducible refine (r3_Target.calls t138 true _ A22.out).mono ?_); rintro e w' ⟨rfl, ⟨nd, rfl⟩⟩; (try first | exact ⟨rfl, _, World.drewN_drewN _ _ _⟩ | exact ⟨rfl, _, Eq.trans (World.drewN_drewN _ _ _) (congrArg (World.drewN _) (Nat.add_assoc _ _ _))⟩)) | (go_at_call 34; (with_reducible refine (r0_Num.calls a0_4 1023 t150 _ A24.out).mono ?_); rintro e w' ⟨rfl, ⟨nd, rfl⟩⟩; (try first | exact ⟨rfl, _, World.drewN_drewN _ _ _⟩ | exact ⟨rfl, _, Eq.trans (World.drewN_drewN _ _ _) (congrArg (World.drewN _) (Nat.add_assoc _ _ _))⟩)))
      repeat (go_quiet (first | (go_at_call 20; (with_reducible refine (r3_Target.calls t138 true _ A22.out).mono ?_); rintro e w' ⟨rfl, ⟨nd, rfl⟩⟩; (try first | exact ⟨rfl, _, World.drewN_drewN _ _ _⟩ | exact ⟨rfl, _, Eq.trans (World.drewN_drewN _ _ _) (congrArg (World.drewN _) (Nat.add_assoc _ _ _))⟩)) | (go_at_call 34; (with_reducible refine (r0_Num.calls a0_4 1023 t150 _ A24.out).mono ?_); rintro e w' ⟨rfl, ⟨nd, rfl⟩⟩; (try first | exact ⟨rfl, _, World.drewN_drewN _ _ _⟩ | exact ⟨rfl, _, Eq.trans (World.drewN_drewN _ _ _) (congrArg (World.drewN _) (Nat.add_assoc _ _ _))⟩))); try go_wp2_with (first | (go_at_call 20; (with_reducible refine (r3_Target.calls t138 true _ A22.out).mono ?_); rintro e w' ⟨rfl, ⟨nd, rfl⟩⟩; (try first | exact ⟨rfl, _, World.drewN_drewN _ _ _⟩ | exact ⟨rfl, _, Eq.trans (World.drewN_drewN _ _ _) (congrArg (World.drewN _) (Nat.add_assoc _ _ _))⟩)) | (go_at_call 34; (with_reducible refine (r0_Num.calls a0_4 1023 t150 _ A24.out).mono ?_); rintro e w' ⟨rfl, ⟨nd, rfl⟩⟩; (try first | exact ⟨rfl, _, World.drewN_drewN _ _ _⟩ | exact ⟨rfl, _, Eq.trans (World.drewN_drewN _ _ _) (congrArg (World.drewN _) (Nat.add_assoc _ _ _))⟩))))
      go_ret
      exact ⟨by first | rfl | (simp [eN_, eS_] <;> rfl) | (simp [*, eN_, eS_] <;> rfl), by repeat (first | (with_reducible first | exact HB.out | apply bA_ | apply bN_ | apply b1_ | refine bS_ ?_ GE136.out) | exact HB.out)⟩
     replace c23 := Bool.eq_false_iff.mpr c23
     subst c23
     have H1 : ((r3_Bits.f kj4 t138).bind fun t151 => (if t151 > 0 then ((r3_Bits.f kj4 t138).bind fun t152 => ((r1_Fits.f a0_4 t151).bind fun t153 => (some t153))) else (some (a0_4 == 0)))) = some r := by rw [if_neg (show ¬ (false = true) by decide)] at H; exact H
     clear H
     have H := H1
     clear H1
     replace H := Option.bind_eq_some_iff.mp H
     obtain ⟨t151, A260, H⟩ := H
     replace H : (if t151 > 0 then ((r3_Bits.f kj4 t138).bind fun t152 => ((r1_Fits.f a0_4 t151).bind fun t153 => (some t153))) else (some (a0_4 == 0))) = some r := H
     have A26 := As_.mk A260
     clear A260
     by_cases c27 : t151 > 0
     ·rw [if_pos c27] at H
      have c27b0 : decide (0 < t151) = true := decide_eq_true c27
      clear c27
      replace H := Option.bind_eq_some_iff.mp H
      obtain ⟨t152, A280, H⟩ := H
      replace H : ((r1_Fits.f a0_4 t151).bind fun t153 => (some t153)) = some r := H
      have A28 := As_.mk A280
      clear A280
      obtain rfl : t151 = t152 := Option.some.inj (A26.out.symm.trans A28.out)
      replace H := Option.bind_eq_some_iff.mp H
      obtain ⟨t153, A290, H⟩ := H
      replace H : (some t153) = some r := H
      have A29 := As_.mk A290
      clear A290
      obtain rfl := Option.some.inj H
      have hcz30_0 : wc.cell? ⟨gb136, 0, none⟩ = some (.int .i64 a0_0) := (bC_ BK136.out 0).trans rfl
      have hcz30_1 : wc.cell? ⟨gb136, 1, none⟩ = some (.int .i64 a0_1) := (bC_ BK136.out 1).trans rfl
      have hcz30_2 : wc.cell? ⟨gb136, 2, none⟩ = some (.int .i64 a0_2) := (bC_ BK136.out 2).trans rfl
      have hcz30_3 : wc.cell? ⟨gb136, 3, none⟩ = some (.int .i64 a0_3) := (bC_ BK136.out 3).trans rfl
      have hcz30_4 : wc.cell? ⟨gb136, 4, none⟩ = some (.int .i64 a0_4) := (bC_ BK136.out 4).trans rfl
      have hcz30_5 : wc.cell? ⟨gb136, 5, none⟩ = some (.string a0_5) := (bC_ BK136.out 5).trans rfl
      have hfz30_0 := bZ_ BK136.out 0
      have hfz30_1 := bZ_ BK136.out 1
      have hfz30_2 := bZ_ BK136.out 2
      have hfz30_3 := bZ_ BK136.out 3
      have hfz30_4 := bZ_ BK136.out 4
      have hfz30_5 := bZ_ BK136.out 5
      go_wp2_with (first | (go_at_call 20; (with_reducible refine (r3_Target.calls t138 false _ A22.out).mono ?_); rintro e w' ⟨rfl, ⟨nd, rfl⟩⟩; (try first | exact ⟨rfl, _, World.drewN_drewN _ _ _⟩ | exact ⟨rfl, _, Eq.trans (World.drewN_drewN _ _ _) (congrArg (World.drewN _) (Nat.add_assoc _ _ _))⟩)) | (go_at_call 19; (with_reducible refine (r3_Bits.calls kj4 t138 t151 _ A26.out).mono ?_); rintro e w' ⟨rfl, ⟨nd, rfl⟩⟩; (try first | exact ⟨rfl, _, World.drewN_drewN _ _ _⟩ | exact ⟨rfl, _, Eq.trans (World.drewN_drewN _ _ _) (congrArg (World.drewN _) (Nat.add_assoc _ _ _))⟩)) | (go_at_call 19; (with_reducible refine (r3_Bits.calls kj4 t138 t151 _ A28.out).mono ?_); rintro e w' ⟨rfl, ⟨nd, rfl⟩⟩; (try first | exact ⟨rfl, _, World.drewN_drewN _ _ _⟩ | exact ⟨rfl, _, Eq.trans (World.drewN_drewN _ _ _) (congrArg (World.drewN _) (Nat.add_assoc _ _ _))⟩)) | (go_at_call 33; (with_reducible refine (r1_Fits.calls a0_4 t151 t153 _ A29.out).mono ?_); rintro e w' ⟨rfl, ⟨nd, rfl⟩⟩; (try first | exact ⟨rfl, _, World.drewN_drewN _ _ _⟩ | exact ⟨rfl, _, Eq.trans (World.drewN_drewN _ _ _) (congrArg (World.drewN _) (Nat.add_assoc _ _ _))⟩)))
      repeat (go_quiet (first | (go_at_call 20; (with_reducible refine (r3_Target.calls t138 false _ A22.out).mono ?_); rintro e w' ⟨rfl, ⟨nd, rfl⟩⟩; (try first | exact ⟨rfl, _, World.drewN_drewN _ _ _⟩ | exact ⟨rfl, _, Eq.trans (World.drewN_drewN _ _ _) (congrArg (World.drewN _) (Nat.add_assoc _ _ _))⟩)) | (go_at_call 19; (with_reducible refine (r3_Bits.calls kj4 t138 t151 _ A26.out).mono ?_); rintro e w' ⟨rfl, ⟨nd, rfl⟩⟩; (try first | exact ⟨rfl, _, World.drewN_drewN _ _ _⟩ | exact ⟨rfl, _, Eq.trans (World.drewN_drewN _ _ _) (congrArg (World.drewN _) (Nat.add_assoc _ _ _))⟩)) | (go_at_call 19; (with_reducible refine (r3_Bits.calls kj4 t138 t151 _ A28.out).mono ?_); rintro e w' ⟨rfl, ⟨nd, rfl⟩⟩; (try first | exact ⟨rfl, _, World.drewN_drewN _ _ _⟩ | exact ⟨rfl, _, Eq.trans (World.drewN_drewN _ _ _) (congrArg (World.drewN _) (Nat.add_assoc _ _ _))⟩)) | (go_at_call 33; (with_reducible refine (r1_Fits.calls a0_4 t151 t153 _ A29.out).mono ?_); rintro e w' ⟨rfl, ⟨nd, rfl⟩⟩; (try first | exact ⟨rfl, _, World.drewN_drewN _ _ _⟩ | exact ⟨rfl, _, Eq.trans (World.drewN_drewN _ _ _) (congrArg (World.drewN _) (Nat.add_assoc _ _ _))⟩))); try go_wp2_with (first | (go_at_call 20; (with_reducible refine (r3_Target.calls t138 false _ A22.out).mono ?_); rintro e w' ⟨rfl, ⟨nd, rfl⟩⟩; (try first | exact ⟨rfl, _, World.drewN_drewN _ _ _⟩ | exact ⟨rfl, _, Eq.trans (World.drewN_drewN _ _ _) (congrArg (World.drewN _) (Nat.add_assoc _ _ _))⟩)) | (go_at_call 19; (with_reducible refine (r3_Bits.calls kj4 t138 t151 _ A26.out).mono ?_); rintro e w' ⟨rfl, ⟨nd, rfl⟩⟩; (try first | exact ⟨rfl, _, World.drewN_drewN _ _ _⟩ | exact ⟨rfl, _, Eq.trans (World.drewN_drewN _ _ _) (congrArg (World.drewN _) (Nat.add_assoc _ _ _))⟩)) | (go_at_call 19; (with_reducible refine (r3_Bits.calls kj4 t138 t151 _ A28.out).mono ?_); rintro e w' ⟨rfl, ⟨nd, rfl⟩⟩; (try first | exact ⟨rfl, _, World.drewN_drewN _ _ _⟩ | exact ⟨rfl, _, Eq.trans (World.drewN_drewN _ _ _) (congrArg (World.drewN _) (Nat.add_assoc _ _ _))⟩)) | (go_at_call 33; (with_reducible refine (r1_Fits.calls a0_4 t151 t153 _ A29.out).mono ?_); rintro e w' ⟨rfl, ⟨nd, rfl⟩⟩; (try first | exact ⟨rfl, _, World.drewN_drewN _ _ _⟩ | exact ⟨rfl, _, Eq.trans (World.drewN_drewN _ _ _) (congrArg (World.drewN _) (Nat.add_assoc _ _ _))⟩))))
      go_ret
      exact ⟨by first | rfl | (simp [eN_, eS_] <;> rfl) | (simp [*, eN_, eS_] <;> rfl), by repeat (first | (with_reducible first | exact HB.out | apply bA_ | apply bN_ | apply b1_ | refine bS_ ?_ GE136.out) | exact HB.out)⟩
     rw [if_neg c27] at H
     have c27b0 : decide (0 < t151) = false := decide_eq_false c27
     clear c27
     obtain rfl := Option.some.inj H
     have hcz31_0 : wc.cell? ⟨gb136, 0, none⟩ = some (.int .i64 a0_0) := (bC_ BK136.out 0).trans rfl
     have hcz31_1 : wc.cell? ⟨gb136, 1, none⟩ = some (.int .i64 a0_1) := (bC_ BK136.out 1).trans rfl
     have hcz31_2 : wc.cell? ⟨gb136, 2, none⟩ = some (.int .i64 a0_2) := (bC_ BK136.out 2).trans rfl
     have hcz31_3 : wc.cell? ⟨gb136, 3, none⟩ = some (.int .i64 a0_3) := (bC_ BK136.out 3).trans rfl
     have hcz31_4 : wc.cell? ⟨gb136, 4, none⟩ = some (.int .i64 a0_4) := (bC_ BK136.out 4).trans rfl
     have hcz31_5 : wc.cell? ⟨gb136, 5, none⟩ = some (.string a0_5) := (bC_ BK136.out 5).trans rfl
     have hfz31_0 := bZ_ BK136.out 0
     have hfz31_1 := bZ_ BK136.out 1
     have hfz31_2 := bZ_ BK136.out 2
     have hfz31_3 := bZ_ BK136.out 3
     have hfz31_4 := bZ_ BK136.out 4
     have hfz31_5 := bZ_ BK136.out 5
     go_wp2_with (first | (go_at_call 20; (with_reducible refine (r3_Target.calls t138 false _ A22.out).mono ?_); rintro e w' ⟨rfl, ⟨nd, rfl⟩⟩; (try first | exact ⟨rfl, _, World.drewN_drewN _ _ _⟩ | exact ⟨rfl, _, Eq.trans (World.drewN_drewN _ _ _) (congrArg (World.drewN _) (Nat.add_assoc _ _ _))⟩)) | (go_at_call 19; (with_reducible refine (r3_Bits.calls kj4 t138 t151 _ A26.out).mono ?_); rintro e w' ⟨rfl, ⟨nd, rfl⟩⟩; (try first | exact ⟨rfl, _, World.drewN_drewN _ _ _⟩ | exact ⟨rfl, _, Eq.trans (World.drewN_drewN _ _ _) (congrArg (World.drewN _) (Nat.add_assoc _ _ _))⟩)))
     repeat (go_quiet (first | (go_at_call 20; (with_reducible refine (r3_Target.calls t138 false _ A22.out).mono ?_); rintro e w' ⟨rfl, ⟨nd, rfl⟩⟩; (try first | exact ⟨rfl, _, World.drewN_drewN _ _ _⟩ | exact ⟨rfl, _, Eq.trans (World.drewN_drewN _ _ _) (congrArg (World.drewN _) (Nat.add_assoc _ _ _))⟩)) | (go_at_call 19; (with_reducible refine (r3_Bits.calls kj4 t138 t151 _ A26.out).mono ?_); rintro e w' ⟨rfl, ⟨nd, rfl⟩⟩; (try first | exact ⟨rfl, _, World.drewN_drewN _ _ _⟩ | exact ⟨rfl, _, Eq.trans (World.drewN_drewN _ _ _) (congrArg (World.drewN _) (Nat.add_assoc _ _ _))⟩))); try go_wp2_with (first | (go_at_call 20; (with_reducible refine (r3_Target.calls t138 false _ A22.out).mono ?_); rintro e w' ⟨rfl, ⟨nd, rfl⟩⟩; (try first | exact ⟨rfl, _, World.drewN_drewN _ _ _⟩ | exact ⟨rfl, _, Eq.trans (World.drewN_drewN _ _ _) (congrArg (World.drewN _) (Nat.add_assoc _ _ _))⟩)) | (go_at_call 19; (with_reducible refine (r3_Bits.calls kj4 t138 t151 _ A26.out).mono ?_); rintro e w' ⟨rfl, ⟨nd, rfl⟩⟩; (try first | exact ⟨rfl, _, World.drewN_drewN _ _ _⟩ | exact ⟨rfl, _, Eq.trans (World.drewN_drewN _ _ _) (congrArg (World.drewN _) (Nat.add_assoc _ _ _))⟩))))
     go_ret
     exact ⟨by first | rfl | (simp [eN_, eS_] <;> rfl) | (simp [*, eN_, eS_] <;> rfl), by repeat (first | (with_reducible first | exact HB.out | apply bA_ | apply bN_ | apply b1_ | refine bS_ ?_ GE136.out) | exact HB.out)⟩
    rw [if_neg c21] at H
    have c21b0 : (a0_5.toList == ([] : List UInt8)) = false := beq_eq_false_iff_ne.mpr c21
    have c21b1 : (a0_5.toList != ([] : List UInt8)) = true := bne_iff_ne.mpr c21
    replace H := Option.bind_eq_some_iff.mp H
    obtain ⟨t145, A320, H⟩ := H
    replace H : (if t145 = true then (if a0_0 = 23 then ((r1_Fits.f a0_4 18).bind fun t146 => (if t146 = true then (some true) else ((r3_Target.f t138).bind fun t147 => (if t147 = true then (some (a0_4 == 0)) else (some false))))) else ((r3_Target.f t138).bind fun t148 => (if t148 = true then (some (a0_4 == 0)) else (some false)))) else (some false)) = some r := H
    have A32 := As_.mk A320
    clear A320
    by_cases c33 : t145 = true
    ·subst c33
     have H1 : (if a0_0 = 23 then ((r1_Fits.f a0_4 18).bind fun t146 => (if t146 = true then (some true) else ((r3_Target.f t138).bind fun t147 => (if t147 = true then (some (a0_4 == 0)) else (some false))))) else ((r3_Target.f t138).bind fun t148 => (if t148 = true then (some (a0_4 == 0)) else (some false)))) = some r := by rw [if_pos rfl] at H; exact H
     clear H
     have H := H1
     clear H1
     by_cases c34 : a0_0 = 23
     ·rw [if_pos c34] at H
      have c34b0 : (a0_0 == 23) = true := beq_iff_eq.mpr c34
      have c34b1 : (a0_0 != 23) = false := bne_eq_false_iff_eq.mpr c34
      clear c34
      replace H := Option.bind_eq_some_iff.mp H
      obtain ⟨t146, A350, H⟩ := H
      replace H : (if t146 = true then (some true) else ((r3_Target.f t138).bind fun t147 => (if t147 = true then (some (a0_4 == 0)) else (some false)))) = some r := H
      have A35 := As_.mk A350
      clear A350
      by_cases c36 : t146 = true
      ·subst c36
       have H1 : (some true) = some r := by rw [if_pos rfl] at H; exact H
       clear H
       have H := H1
       clear H1
       obtain rfl := Option.some.inj H
       have hcz37_0 : wc.cell? ⟨gb136, 0, none⟩ = some (.int .i64 a0_0) := (bC_ BK136.out 0).trans rfl
       have hcz37_1 : wc.cell? ⟨gb136, 1, none⟩ = some (.int .i64 a0_1) := (bC_ BK136.out 1).trans rfl
       have hcz37_2 : wc.cell? ⟨gb136, 2, none⟩ = some (.int .i64 a0_2) := (bC_ BK136.out 2).trans rfl
       have hcz37_3 : wc.cell? ⟨gb136, 3, none⟩ = some (.int .i64 a0_3) := (bC_ BK136.out 3).trans rfl
       have hcz37_4 : wc.cell? ⟨gb136, 4, none⟩ = some (.int .i64 a0_4) := (bC_ BK136.out 4).trans rfl
       have hcz37_5 : wc.cell? ⟨gb136, 5, none⟩ = some (.string a0_5) := (bC_ BK136.out 5).trans rfl
       have hfz37_0 := bZ_ BK136.out 0
       have hfz37_1 := bZ_ BK136.out 1
       have hfz37_2 := bZ_ BK136.out 2
       have hfz37_3 := bZ_ BK136.out 3
       have hfz37_4 := bZ_ BK136.out 4
       have hfz37_5 := bZ_ BK136.out 5
       go_wp2_with (first | (go_at_call 32; (with_reducible refine (r3_Name.calls kj4 a0_5 true _ A32.out).mono ?_); rintro e w' ⟨rfl, ⟨nd, rfl⟩⟩; (try first | exact ⟨rfl, _, World.drewN_drewN _ _ _⟩ | exact ⟨rfl, _, Eq.trans (World.drewN_drewN _ _ _) (congrArg (World.drewN _) (Nat.add_assoc _ _ _))⟩)) | (go_at_call 33; (with_reducible refine (r1_Fits.calls a0_4 18 true _ A35.out).mono ?_); rintro e w' ⟨rfl, ⟨nd, rfl⟩⟩; (try first | exact ⟨rfl, _, World.drewN_drewN _ _ _⟩ | exact ⟨rfl, _, Eq.trans (World.drewN_drewN _ _ _) (congrArg (World.drewN _) (Nat.add_assoc _ _ _))⟩)))
       repeat (go_quiet (first | (go_at_call 32; (with_reducible refine (r3_Name.calls kj4 a0_5 true _ A32.out).mono ?_); rintro e w' ⟨rfl, ⟨nd, rfl⟩⟩; (try first | exact ⟨rfl, _, World.drewN_drewN _ _ _⟩ | exact ⟨rfl, _, Eq.trans (World.drewN_drewN _ _ _) (congrArg (World.drewN _) (Nat.add_assoc _ _ _))⟩)) | (go_at_call 33; (with_reducible refine (r1_Fits.calls a0_4 18 true _ A35.out).mono ?_); rintro e w' ⟨rfl, ⟨nd, rfl⟩⟩; (try first | exact ⟨rfl, _, World.drewN_drewN _ _ _⟩ | exact ⟨rfl, _, Eq.trans (World.drewN_drewN _ _ _) (congrArg (World.drewN _) (Nat.add_assoc _ _ _))⟩))); try go_wp2_with (first | (go_at_call 32; (with_reducible refine (r3_Name.calls kj4 a0_5 true _ A32.out).mono ?_); rintro e w' ⟨rfl, ⟨nd, rfl⟩⟩; (try first | exact ⟨rfl, _, World.drewN_drewN _ _ _⟩ | exact ⟨rfl, _, Eq.trans (World.drewN_drewN _ _ _) (congrArg (World.drewN _) (Nat.add_assoc _ _ _))⟩)) | (go_at_call 33; (with_reducible refine (r1_Fits.calls a0_4 18 true _ A35.out).mono ?_); rintro e w' ⟨rfl, ⟨nd, rfl⟩⟩; (try first | exact ⟨rfl, _, World.drewN_drewN _ _ _⟩ | exact ⟨rfl, _, Eq.trans (World.drewN_drewN _ _ _) (congrArg (World.drewN _) (Nat.add_assoc _ _ _))⟩))))
       go_ret
       exact ⟨by first | rfl | (simp [eN_, eS_] <;> rfl) | (simp [*, eN_, eS_] <;> rfl), by repeat (first | (with_reducible first | exact HB.out | apply bA_ | apply bN_ | apply b1_ | refine bS_ ?_ GE136.out) | exact HB.out)⟩
      replace c36 := Bool.eq_false_iff.mpr c36
      subst c36
      have H1 : ((r3_Target.f t138).bind fun t147 => (if t147 = true then (some (a0_4 == 0)) else (some false))) = some r := by rw [if_neg (show ¬ (false = true) by decide)] at H; exact H
      clear H
      have H := H1
      clear H1
      replace H := Option.bind_eq_some_iff.mp H
      obtain ⟨t147, A380, H⟩ := H
      replace H : (if t147 = true then (some (a0_4 == 0)) else (some false)) = some r := H
      have A38 := As_.mk A380
      clear A380
      by_cases c39 : t147 = true
      ·subst c39
       have H1 : (some (a0_4 == 0)) = some r := by rw [if_pos rfl] at H; exact H
       clear H
       have H := H1
       clear H1
       obtain rfl := Option.some.inj H
       have hcz40_0 : wc.cell? ⟨gb136, 0, none⟩ = some (.int .i64 a0_0) := (bC_ BK136.out 0).trans rfl
       have hcz40_1 : wc.cell? ⟨gb136, 1, none⟩ = some (.int .i64 a0_1) := (bC_ BK136.out 1).trans rfl
       have hcz40_2 : wc.cell? ⟨gb136, 2, none⟩ = some (.int .i64 a0_2) := (bC_ BK136.out 2).trans rfl
       have hcz40_3 : wc.cell? ⟨gb136, 3, none⟩ = some (.int .i64 a0_3) := (bC_ BK136.out 3).trans rfl
       have hcz40_4 : wc.cell? ⟨gb136, 4, none⟩ = some (.int .i64 a0_4) := (bC_ BK136.out 4).trans rfl
       have hcz40_5 : wc.cell? ⟨gb136, 5, none⟩ = some (.string a0_5) := (bC_ BK136.out 5).trans rfl
       have hfz40_0 := bZ_ BK136.out 0
       have hfz40_1 := bZ_ BK136.out 1
       have hfz40_2 := bZ_ BK136.out 2
       have hfz40_3 := bZ_ BK136.out 3
       have hfz40_4 := bZ_ BK136.out 4
       have hfz40_5 := bZ_ BK136.out 5
       go_wp2_with (first | (go_at_call 32; (with_reducible refine (r3_Name.calls kj4 a0_5 true _ A32.out).mono ?_); rintro e w' ⟨rfl, ⟨nd, rfl⟩⟩; (try first | exact ⟨rfl, _, World.drewN_drewN _ _ _⟩ | exact ⟨rfl, _, Eq.trans (World.drewN_drewN _ _ _) (congrArg (World.drewN _) (Nat.add_assoc _ _ _))⟩)) | (go_at_call 33; (with_reducible refine (r1_Fits.calls a0_4 18 false _ A35.out).mono ?_); rintro e w' ⟨rfl, ⟨nd, rfl⟩⟩; (try first | exact ⟨rfl, _, World.drewN_drewN _ _ _⟩ | exact ⟨rfl, _, Eq.trans (World.drewN_drewN _ _ _) (congrArg (World.drewN _) (Nat.add_assoc _ _ _))⟩)) | (go_at_call 20; (with_reducible refine (r3_Target.calls t138 true _ A38.out).mono ?_); rintro e w' ⟨rfl, ⟨nd, rfl⟩⟩; (try first | exact ⟨rfl, _, World.drewN_drewN _ _ _⟩ | exact ⟨rfl, _, Eq.trans (World.drewN_drewN _ _ _) (congrArg (World.drewN _) (Nat.add_assoc _ _ _))⟩)))
       repeat (go_quiet (first | (go_at_call 32; (with_reducible refine (r3_Name.calls kj4 a0_5 true _ A32.out).mono ?_); rintro e w' ⟨rfl, ⟨nd, rfl⟩⟩; (try first | exact ⟨rfl, _, World.drewN_drewN _ _ _⟩ | exact ⟨rfl, _, Eq.trans (World.drewN_drewN _ _ _) (congrArg (World.drewN _) (Nat.add_assoc _ _ _))⟩)) | (go_at_call 33; (with_reducible refine (r1_Fits.calls a0_4 18 false _ A35.out).mono ?_); rintro e w' ⟨rfl, ⟨nd, rfl⟩⟩; (try first | exact ⟨rfl, _, World.drewN_drewN _ _ _⟩ | exact ⟨rfl, _, Eq.trans (World.drewN_drewN _ _ _) (congrArg (World.drewN _) (Nat.add_assoc _ _ _))⟩)) | (go_at_call 20; (with_reducible refine (r3_Target.calls t138 true _ A38.out).mono ?_); rintro e w' ⟨rfl, ⟨nd, rfl⟩⟩; (try first | exact ⟨rfl, _, World.drewN_drewN _ _ _⟩ | exact ⟨rfl, _, Eq.trans (World.drewN_drewN _ _ _) (congrArg (World.drewN _) (Nat.add_assoc _ _ _))⟩))); try go_wp2_with (first | (go_at_call 32; (with_reducible refine (r3_Name.calls kj4 a0_5 true _ A32.out).mono ?_); rintro e w' ⟨rfl, ⟨nd, rfl⟩⟩; (try first | exact ⟨rfl, _, World.drewN_drewN _ _ _⟩ | exact ⟨rfl, _, Eq.trans (World.drewN_drewN _ _ _) (congrArg (World.drewN _) (Nat.add_assoc _ _ _))⟩)) | (go_at_call 33; (with_reducible refine (r1_Fits.calls a0_4 18 false _ A35.out).mono ?_); rintro e w' ⟨rfl, ⟨nd, rfl⟩⟩; (try first | exact ⟨rfl, _, World.drewN_drewN _ _ _⟩ | exact ⟨rfl, _, Eq.trans (World.drewN_drewN _ _ _) (congrArg (World.drewN _) (Nat.add_assoc _ _ _))⟩)) | (go_at_call 20; (with_reducible refine (r3_Target.calls t138 true _ A38.out).mono ?_); rintro e w' ⟨rfl, ⟨nd, rfl⟩⟩; (try first | exact ⟨rfl, _, World.drewN_drewN _ _ _⟩ | exact ⟨rfl, _, Eq.trans (World.drewN_drewN _ _ _) (congrArg (World.drewN _) (Nat.add_assoc _ _ _))⟩))))
       go_ret
       exact ⟨by first | rfl | (simp [eN_, eS_] <;> rfl) | (simp [*, eN_, eS_] <;> rfl), by repeat (first | (with_reducible first | exact HB.out | apply bA_ | apply bN_ | apply b1_ | refine bS_ ?_ GE136.out) | exact HB.out)⟩
      replace c39 := Bool.eq_false_iff.mpr c39
      subst c39
      have H1 : (some false) = some r := by rw [if_neg (show ¬ (false = true) by decide)] at H; exact H
      clear H
      have H := H1
      clear H1
      obtain rfl := Option.some.inj H
      have hcz41_0 : wc.cell? ⟨gb136, 0, none⟩ = some (.int .i64 a0_0) := (bC_ BK136.out 0).trans rfl
      have hcz41_1 : wc.cell? ⟨gb136, 1, none⟩ = some (.int .i64 a0_1) := (bC_ BK136.out 1).trans rfl
      have hcz41_2 : wc.cell? ⟨gb136, 2, none⟩ = some (.int .i64 a0_2) := (bC_ BK136.out 2).trans rfl
      have hcz41_3 : wc.cell? ⟨gb136, 3, none⟩ = some (.int .i64 a0_3) := (bC_ BK136.out 3).trans rfl
      have hcz41_4 : wc.cell? ⟨gb136, 4, none⟩ = some (.int .i64 a0_4) := (bC_ BK136.out 4).trans rfl
      have hcz41_5 : wc.cell? ⟨gb136, 5, none⟩ = some (.string a0_5) := (bC_ BK136.out 5).trans rfl
      have hfz41_0 := bZ_ BK136.out 0
      have hfz41_1 := bZ_ BK136.out 1
      have hfz41_2 := bZ_ BK136.out 2
      have hfz41_3 := bZ_ BK136.out 3
      have hfz41_4 := bZ_ BK136.out 4
      have hfz41_5 := bZ_ BK136.out 5
      go_wp2_with (first | (go_at_call 32; (with_reducible refine (r3_Name.calls kj4 a0_5 true _ A32.out).mono ?_); rintro e w' ⟨rfl, ⟨nd, rfl⟩⟩; (try first | exact ⟨rfl, _, World.drewN_drewN _ _ _⟩ | exact ⟨rfl, _, Eq.trans (World.drewN_drewN _ _ _) (congrArg (World.drewN _) (Nat.add_assoc _ _ _))⟩)) | (go_at_call 33; (with_reducible refine (r1_Fits.calls a0_4 18 false _ A35.out).mono ?_); rintro e w' ⟨rfl, ⟨nd, rfl⟩⟩; (try first | exact ⟨rfl, _, World.drewN_drewN _ _ _⟩ | exact ⟨rfl, _, Eq.trans (World.drewN_drewN _ _ _) (congrArg (World.drewN _) (Nat.add_assoc _ _ _))⟩)) | (go_at_call 20; (with_reducible refine (r3_Target.calls t138 false _ A38.out).mono ?_); rintro e w' ⟨rfl, ⟨nd, rfl⟩⟩; (try first | exact ⟨rfl, _, World.drewN_drewN _ _ _⟩ | exact ⟨rfl, _, Eq.trans (World.drewN_drewN _ _ _) (congrArg (World.drewN _) (Nat.add_assoc _ _ _))⟩)))
      repeat (go_quiet (first | (go_at_call 32; (with_reducible refine (r3_Name.calls kj4 a0_5 true _ A32.out).mono ?_); rintro e w' ⟨rfl, ⟨nd, rfl⟩⟩; (try first | exact ⟨rfl, _, World.drewN_drewN _ _ _⟩ | exact ⟨rfl, _, Eq.trans (World.drewN_drewN _ _ _) (congrArg (World.drewN _) (Nat.add_assoc _ _ _))⟩)) | (go_at_call 33; (with_reducible refine (r1_Fits.calls a0_4 18 false _ A35.out).mono ?_); rintro e w' ⟨rfl, ⟨nd, rfl⟩⟩; (try first | exact ⟨rfl, _, World.drewN_drewN _ _ _⟩ | exact ⟨rfl, _, Eq.trans (World.drewN_drewN _ _ _) (congrArg (World.drewN _) (Nat.add_assoc _ _ _))⟩)) | (go_at_call 20; (with_reducible refine (r3_Target.calls t138 false _ A38.out).mono ?_); rintro e w' ⟨rfl, ⟨nd, rfl⟩⟩; (try first | exact ⟨rfl, _, World.drewN_drewN _ _ _⟩ | exact ⟨rfl, _, Eq.trans (World.drewN_drewN _ _ _) (congrArg (World.drewN _) (Nat.add_assoc _ _ _))⟩))); try go_wp2_with (first | (go_at_call 32; (with_reducible refine (r3_Name.calls kj4 a0_5 true _ A32.out).mono ?_); rintro e w' ⟨rfl, ⟨nd, rfl⟩⟩; (try first | exact ⟨rfl, _, World.drewN_drewN _ _ _⟩ | exact ⟨rfl, _, Eq.trans (World.drewN_drewN _ _ _) (congrArg (World.drewN _) (Nat.add_assoc _ _ _))⟩)) | (go_at_call 33; (with_reducible refine (r1_Fits.calls a0_4 18 false _ A35.out).mono ?_); rintro e w' ⟨rfl, ⟨nd, rfl⟩⟩; (try first | exact ⟨rfl, _, World.drewN_drewN _ _ _⟩ | exact ⟨rfl, _, Eq.trans (World.drewN_drewN _ _ _) (congrArg (World.drewN _) (Nat.add_assoc _ _ _))⟩)) | (go_at_call 20; (with_reducible refine (r3_Target.calls t138 false _ A38.out).mono ?_); rintro e w' ⟨rfl, ⟨nd, rfl⟩⟩; (try first | exact ⟨rfl, _, World.drewN_drewN _ _ _⟩ | exact ⟨rfl, _, Eq.trans (World.drewN_drewN _ _ _) (congrArg (World.drewN _) (Nat.add_assoc _ _ _))⟩))))
      go_ret
      exact ⟨by first | rfl | (simp [eN_, eS_] <;> rfl) | (simp [*, eN_, eS_] <;> rfl), by repeat (first | (with_reducible first | exact HB.out | apply bA_ | apply bN_ | apply b1_ | refine bS_ ?_ GE136.out) | exact HB.out)⟩
     rw [if_neg c34] at H
     have c34b0 : (a0_0 == 23) = false := beq_eq_false_iff_ne.mpr c34
     have c34b1 : (a0_0 != 23) = true := bne_iff_ne.mpr c34
     replace H := Option.bind_eq_some_iff.mp H
     obtain ⟨t148, A420, H⟩ := H
     replace H : (if t148 = true then (some (a0_4 == 0)) else (some false)) = some r := H
     have A42 := As_.mk A420
     clear A420
     by_cases c43 : t148 = true
     ·subst c43
      have H1 : (some (a0_4 == 0)) = some r := by rw [if_pos rfl] at H; exact H
      clear H
      have H := H1
      clear H1
      obtain rfl := Option.some.inj H
      have hcz44_0 : wc.cell? ⟨gb136, 0, none⟩ = some (.int .i64 a0_0) := (bC_ BK136.out 0).trans rfl
      have hcz44_1 : wc.cell? ⟨gb136, 1, none⟩ = some (.int .i64 a0_1) := (bC_ BK136.out 1).trans rfl
      have hcz44_2 : wc.cell? ⟨gb136, 2, none⟩ = some (.int .i64 a0_2) := (bC_ BK136.out 2).trans rfl
      have hcz44_3 : wc.cell? ⟨gb136, 3, none⟩ = some (.int .i64 a0_3) := (bC_ BK136.out 3).trans rfl
      have hcz44_4 : wc.cell? ⟨gb136, 4, none⟩ = some (.int .i64 a0_4) := (bC_ BK136.out 4).trans rfl
      have hcz44_5 : wc.cell? ⟨gb136, 5, none⟩ = some (.string a0_5) := (bC_ BK136.out 5).trans rfl
      have hfz44_0 := bZ_ BK136.out 0
      have hfz44_1 := bZ_ BK136.out 1
      have hfz44_2 := bZ_ BK136.out 2
      have hfz44_3 := bZ_ BK136.out 3
      have hfz44_4 := bZ_ BK136.out 4
      have hfz44_5 := bZ_ BK136.out 5
      go_wp2_with (first | (go_at_call 32; (with_reducible refine (r3_Name.calls kj4 a0_5 true _ A32.out).mono ?_); rintro e w' ⟨rfl, ⟨nd, rfl⟩⟩; (try first | exact ⟨rfl, _, World.drewN_drewN _ _ _⟩ | exact ⟨rfl, _, Eq.trans (World.drewN_drewN _ _ _) (congrArg (World.drewN _) (Nat.add_assoc _ _ _))⟩)) | (go_at_call 20; (with_reducible refine (r3_Target.calls t138 true _ A42.out).mono ?_); rintro e w' ⟨rfl, ⟨nd, rfl⟩⟩; (try first | exact ⟨rfl, _, World.drewN_drewN _ _ _⟩ | exact ⟨rfl, _, Eq.trans (World.drewN_drewN _ _ _) (congrArg (World.drewN _) (Nat.add_assoc _ _ _))⟩)))
      repeat (go_quiet (first | (go_at_call 32; (with_reducible refine (r3_Name.calls kj4 a0_5 true _ A32.out).mono ?_); rintro e w' ⟨rfl, ⟨nd, rfl⟩⟩; (try first | exact ⟨rfl, _, World.drewN_drewN _ _ _⟩ | exact ⟨rfl, _, Eq.trans (World.drewN_drewN _ _ _) (congrArg (World.drewN _) (Nat.add_assoc _ _ _))⟩)) | (go_at_call 20; (with_reducible refine (r3_Target.calls t138 true _ A42.out).mono ?_); rintro e w' ⟨rfl, ⟨nd, rfl⟩⟩; (try first | exact ⟨rfl, _, World.drewN_drewN _ _ _⟩ | exact ⟨rfl, _, Eq.trans (World.drewN_drewN _ _ _) (congrArg (World.drewN _) (Nat.add_assoc _ _ _))⟩))); try go_wp2_with (first | (go_at_call 32; (with_reducible refine (r3_Name.calls kj4 a0_5 true _ A32.out).mono ?_); rintro e w' ⟨rfl, ⟨nd, rfl⟩⟩; (try first | exact ⟨rfl, _, World.drewN_drewN _ _ _⟩ | exact ⟨rfl, _, Eq.trans (World.drewN_drewN _ _ _) (congrArg (World.drewN _) (Nat.add_assoc _ _ _))⟩)) | (go_at_call 20; (with_reducible refine (r3_Target.calls t138 true _ A42.out).mono ?_); rintro e w' ⟨rfl, ⟨nd, rfl⟩⟩; (try first | exact ⟨rfl, _, World.drewN_drewN _ _ _⟩ | exact ⟨rfl, _, Eq.trans (World.drewN_drewN _ _ _) (congrArg (World.drewN _) (Nat.add_assoc _ _ _))⟩))))
      go_ret
      exact ⟨by first | rfl | (simp [eN_, eS_] <;> rfl) | (simp [*, eN_, eS_] <;> rfl), by repeat (first | (with_reducible first | exact HB.out | apply bA_ | apply bN_ | apply b1_ | refine bS_ ?_ GE136.out) | exact HB.out)⟩
     replace c43 := Bool.eq_false_iff.mpr c43
     subst c43
     have H1 : (some false) = some r := by rw [if_neg (show ¬ (false = true) by decide)] at H; exact H
     clear H
     have H := H1
     clear H1
     obtain rfl := Option.some.inj H
     have hcz45_0 : wc.cell? ⟨gb136, 0, none⟩ = some (.int .i64 a0_0) := (bC_ BK136.out 0).trans rfl
     have hcz45_1 : wc.cell? ⟨gb136, 1, none⟩ = some (.int .i64 a0_1) := (bC_ BK136.out 1).trans rfl
     have hcz45_2 : wc.cell? ⟨gb136, 2, none⟩ = some (.int .i64 a0_2) := (bC_ BK136.out 2).trans rfl
     have hcz45_3 : wc.cell? ⟨gb136, 3, none⟩ = some (.int .i64 a0_3) := (bC_ BK136.out 3).trans rfl
     have hcz45_4 : wc.cell? ⟨gb136, 4, none⟩ = some (.int .i64 a0_4) := (bC_ BK136.out 4).trans rfl
     have hcz45_5 : wc.cell? ⟨gb136, 5, none⟩ = some (.string a0_5) := (bC_ BK136.out 5).trans rfl
     have hfz45_0 := bZ_ BK136.out 0
     have hfz45_1 := bZ_ BK136.out 1
     have hfz45_2 := bZ_ BK136.out 2
     have hfz45_3 := bZ_ BK136.out 3
     have hfz45_4 := bZ_ BK136.out 4
     have hfz45_5 := bZ_ BK136.out 5
     go_wp2_with (first | (go_at_call 32; (with_reducible refine (r3_Name.calls kj4 a0_5 true _ A32.out).mono ?_); rintro e w' ⟨rfl, ⟨nd, rfl⟩⟩; (try first | exact ⟨rfl, _, World.drewN_drewN _ _ _⟩ | exact ⟨rfl, _, Eq.trans (World.drewN_drewN _ _ _) (congrArg (World.drewN _) (Nat.add_assoc _ _ _))⟩)) | (go_at_call 20; (with_reducible refine (r3_Target.calls t138 false _ A42.out).mono ?_); rintro e w' ⟨rfl, ⟨nd, rfl⟩⟩; (try first | exact ⟨rfl, _, World.drewN_drewN _ _ _⟩ | exact ⟨rfl, _, Eq.trans (World.drewN_drewN _ _ _) (congrArg (World.drewN _) (Nat.add_assoc _ _ _))⟩)))
     repeat (go_quiet (first | (go_at_call 32; (with_reducible refine (r3_Name.calls kj4 a0_5 true _ A32.out).mono ?_); rintro e w' ⟨rfl, ⟨nd, rfl⟩⟩; (try first | exact ⟨rfl, _, World.drewN_drewN _ _ _⟩ | exact ⟨rfl, _, Eq.trans (World.drewN_drewN _ _ _) (congrArg (World.drewN _) (Nat.add_assoc _ _ _))⟩)) | (go_at_call 20; (with_reducible refine (r3_Target.calls t138 false _ A42.out).mono ?_); rintro e w' ⟨rfl, ⟨nd, rfl⟩⟩; (try first | exact ⟨rfl, _, World.drewN_drewN _ _ _⟩ | exact ⟨rfl, _, Eq.trans (World.drewN_drewN _ _ _) (congrArg (World.drewN _) (Nat.add_assoc _ _ _))⟩))); try go_wp2_with (first | (go_at_call 32; (with_reducible refine (r3_Name.calls kj4 a0_5 true _ A32.out).mono ?_); rintro e w' ⟨rfl, ⟨nd, rfl⟩⟩; (try first | exact ⟨rfl, _, World.drewN_drewN _ _ _⟩ | exact ⟨rfl, _, Eq.trans (World.drewN_drewN _ _ _) (congrArg (World.drewN _) (Nat.add_assoc _ _ _))⟩)) | (go_at_call 20; (with_reducible refine (r3_Target.calls t138 false _ A42.out).mono ?_); rintro e w' ⟨rfl, ⟨nd, rfl⟩⟩; (try first | exact ⟨rfl, _, World.drewN_drewN _ _ _⟩ | exact ⟨rfl, _, Eq.trans (World.drewN_drewN _ _ _) (congrArg (World.drewN _) (Nat.add_assoc _ _ _))⟩))))
     go_ret
     exact ⟨by first | rfl | (simp [eN_, eS_] <;> rfl) | (simp [*, eN_, eS_] <;> rfl), by repeat (first | (with_reducible first | exact HB.out | apply bA_ | apply bN_ | apply b1_ | refine bS_ ?_ GE136.out) | exact HB.out)⟩
    replace c33 := Bool.eq_false_iff.mpr c33
    subst c33
    have H1 : (some false) = some r := by rw [if_neg (show ¬ (false = true) by decide)] at H; exact H
    clear H
    have H := H1
    clear H1
    obtain rfl := Option.some.inj H
    have hcz46_0 : wc.cell? ⟨gb136, 0, none⟩ = some (.int .i64 a0_0) := (bC_ BK136.out 0).trans rfl
    have hcz46_1 : wc.cell? ⟨gb136, 1, none⟩ = some (.int .i64 a0_1) := (bC_ BK136.out 1).trans rfl
    have hcz46_2 : wc.cell? ⟨gb136, 2, none⟩ = some (.int .i64 a0_2) := (bC_ BK136.out 2).trans rfl
    have hcz46_3 : wc.cell? ⟨gb136, 3, none⟩ = some (.int .i64 a0_3) := (bC_ BK136.out 3).trans rfl
    have hcz46_4 : wc.cell? ⟨gb136, 4, none⟩ = some (.int .i64 a0_4) := (bC_ BK136.out 4).trans rfl
    have hcz46_5 : wc.cell? ⟨gb136, 5, none⟩ = some (.string a0_5) := (bC_ BK136.out 5).trans rfl
    have hfz46_0 := bZ_ BK136.out 0
    have hfz46_1 := bZ_ BK136.out 1
    have hfz46_2 := bZ_ BK136.out 2
    have hfz46_3 := bZ_ BK136.out 3
    have hfz46_4 := bZ_ BK136.out 4
    have hfz46_5 := bZ_ BK136.out 5
    go_wp2_with (first | (go_at_call 32; (with_reducible refine (r3_Name.calls kj4 a0_5 false _ A32.out).mono ?_); rintro e w' ⟨rfl, ⟨nd, rfl⟩⟩; (try first | exact ⟨rfl, _, World.drewN_drewN _ _ _⟩ | exact ⟨rfl, _, Eq.trans (World.drewN_drewN _ _ _) (congrArg (World.drewN _) (Nat.add_assoc _ _ _))⟩)))
    repeat (go_quiet (first | (go_at_call 32; (with_reducible refine (r3_Name.calls kj4 a0_5 false _ A32.out).mono ?_); rintro e w' ⟨rfl, ⟨nd, rfl⟩⟩; (try first | exact ⟨rfl, _, World.drewN_drewN _ _ _⟩ | exact ⟨rfl, _, Eq.trans (World.drewN_drewN _ _ _) (congrArg (World.drewN _) (Nat.add_assoc _ _ _))⟩))); try go_wp2_with (first | (go_at_call 32; (with_reducible refine (r3_Name.calls kj4 a0_5 false _ A32.out).mono ?_); rintro e w' ⟨rfl, ⟨nd, rfl⟩⟩; (try first | exact ⟨rfl, _, World.drewN_drewN _ _ _⟩ | exact ⟨rfl, _, Eq.trans (World.drewN_drewN _ _ _) (congrArg (World.drewN _) (Nat.add_assoc _ _ _))⟩))))
    go_ret
    exact ⟨by first | rfl | (simp [eN_, eS_] <;> rfl) | (simp [*, eN_, eS_] <;> rfl), by repeat (first | (with_reducible first | exact HB.out | apply bA_ | apply bN_ | apply b1_ | refine bS_ ?_ GE136.out) | exact HB.out)⟩
 replace c3 := Bool.eq_false_iff.mpr c3
 subst c3
 have H1 : (some false) = some r := by rw [if_neg (show ¬ (false = true) by decide)] at H; exact H
 clear H
 have H := H1
 clear H1
 obtain rfl := Option.some.inj H
 go_enter Try.func9, Try.ntmps9
 go_wp2_with (first | ((with_reducible refine gate_dst (N := 1) rfl ?_); refine box_event ?hg (N := 1) ?hd (cs := #[.int .i64 a0_0, .int .i64 a0_1, .int .i64 a0_2, .int .i64 a0_3, .int .i64 a0_4, .string a0_5]) (t := 35) ?hr ?_; (case hd => rfl); (case hg => rfl); (case hr => first | (go_simp; done) | (go_simp; rfl)); intro gb136 hg w47 hbox hb; have n0_ := As_.mk (bT_ (by repeat (first | (with_reducible first | exact HB.out | apply bA_ | apply bN_ | apply b1_) | exact HB.out)) hb); have n1_ := As_.mk (hbox); have n2_ := As_.mk ((by rw [hg]; exact (bY_ (by repeat (first | (with_reducible first | exact HB.out | apply bA_ | apply bN_ | apply b1_) | exact HB.out))) : w.heap.size ≤ gb136)); have n3_ := As_.mk ((by rw [hg]; exact (bY_ (by repeat (first | (with_reducible first | exact HB.out | apply bA_ | apply bN_ | apply b1_) | exact HB.out))) : w.heap.size ≤ gb136)); clear HB; have HB := n0_; have BK136 := n1_; have GW136 := n2_; have GE136 := n3_; clear n0_ n1_ n2_ n3_; clear hb hbox hg; have hcz48_0 : w47.cell? ⟨gb136, 0, none⟩ = some (.int .i64 a0_0) := (bC_ BK136.out 0).trans rfl; have hcz48_1 : w47.cell? ⟨gb136, 1, none⟩ = some (.int .i64 a0_1) := (bC_ BK136.out 1).trans rfl; have hcz48_2 : w47.cell? ⟨gb136, 2, none⟩ = some (.int .i64 a0_2) := (bC_ BK136.out 2).trans rfl; have hcz48_3 : w47.cell? ⟨gb136, 3, none⟩ = some (.int .i64 a0_3) := (bC_ BK136.out 3).trans rfl; have hcz48_4 : w47.cell? ⟨gb136, 4, none⟩ = some (.int .i64 a0_4) := (bC_ BK136.out 4).trans rfl; have hcz48_5 : w47.cell? ⟨gb136, 5, none⟩ = some (.string a0_5) := (bC_ BK136.out 5).trans rfl; have hfz48_0 := bZ_ BK136.out 0; have hfz48_1 := bZ_ BK136.out 1; have hfz48_2 := bZ_ BK136.out 2; have hfz48_3 := bZ_ BK136.out 3; have hfz48_4 := bZ_ BK136.out 4; have hfz48_5 := bZ_ BK136.out 5) | (go_at_call 30; (with_reducible refine (r3_Valid.calls a0_0 false _ A2.out).mono ?_); rintro e w' ⟨rfl, ⟨nd, rfl⟩⟩; (try first | exact ⟨rfl, _, World.drewN_drewN _ _ _⟩ | exact ⟨rfl, _, Eq.trans (World.drewN_drewN _ _ _) (congrArg (World.drewN _) (Nat.add_assoc _ _ _))⟩)))
 repeat (go_quiet (first | ((with_reducible refine gate_dst (N := 1) rfl ?_); refine box_event ?hg (N := 1) ?hd (cs := #[.int .i64 a0_0, .int .i64 a0_1, .int .i64 a0_2, .int .i64 a0_3, .int .i64 a0_4, .string a0_5]) (t := 35) ?hr ?_; (case hd => rfl); (case hg => rfl); (case hr => first | (go_simp; done) | (go_simp; rfl)); intro gb136 hg w47 hbox hb; have n0_ := As_.mk (bT_ (by repeat (first | (with_reducible first | exact HB.out | apply bA_ | apply bN_ | apply b1_) | exact HB.out)) hb); have n1_ := As_.mk (hbox); have n2_ := As_.mk ((by rw [hg]; exact (bY_ (by repeat (first | (with_reducible first | exact HB.out | apply bA_ | apply bN_ | apply b1_) | exact HB.out))) : w.heap.size ≤ gb136)); have n3_ := As_.mk ((by rw [hg]; exact (bY_ (by repeat (first | (with_reducible first | exact HB.out | apply bA_ | apply bN_ | apply b1_) | exact HB.out))) : w.heap.size ≤ gb136)); clear HB; have HB := n0_; have BK136 := n1_; have GW136 := n2_; have GE136 := n3_; clear n0_ n1_ n2_ n3_; clear hb hbox hg; have hcz48_0 : w47.cell? ⟨gb136, 0, none⟩ = some (.int .i64 a0_0) := (bC_ BK136.out 0).trans rfl; have hcz48_1 : w47.cell? ⟨gb136, 1, none⟩ = some (.int .i64 a0_1) := (bC_ BK136.out 1).trans rfl; have hcz48_2 : w47.cell? ⟨gb136, 2, none⟩ = some (.int .i64 a0_2) := (bC_ BK136.out 2).trans rfl; have hcz48_3 : w47.cell? ⟨gb136, 3, none⟩ = some (.int .i64 a0_3) := (bC_ BK136.out 3).trans rfl; have hcz48_4 : w47.cell? ⟨gb136, 4, none⟩ = some (.int .i64 a0_4) := (bC_ BK136.out 4).trans rfl; have hcz48_5 : w47.cell? ⟨gb136, 5, none⟩ = some (.string a0_5) := (bC_ BK136.out 5).trans rfl; have hfz48_0 := bZ_ BK136.out 0; have hfz48_1 := bZ_ BK136.out 1; have hfz48_2 := bZ_ BK136.out 2; have hfz48_3 := bZ_ BK136.out 3; have hfz48_4 := bZ_ BK136.out 4; have hfz48_5 := bZ_ BK136.out 5) | (go_at_call 30; (with_reducible refine (r3_Valid.calls a0_0 false _ A2.out).mono ?_); rintro e w' ⟨rfl, ⟨nd, rfl⟩⟩; (try first | exact ⟨rfl, _, World.drewN_drewN _ _ _⟩ | exact ⟨rfl, _, Eq.trans (World.drewN_drewN _ _ _) (congrArg (World.drewN _) (Nat.add_assoc _ _ _))⟩))); try go_wp2_with (first | ((with_reducible refine gate_dst (N := 1) rfl ?_); refine box_event ?hg (N := 1) ?hd (cs := #[.int .i64 a0_0, .int .i64 a0_1, .int .i64 a0_2, .int .i64 a0_3, .int .i64 a0_4, .string a0_5]) (t := 35) ?hr ?_; (case hd => rfl); (case hg => rfl); (case hr => first | (go_simp; done) | (go_simp; rfl)); intro gb136 hg w47 hbox hb; have n0_ := As_.mk (bT_ (by repeat (first | (with_reducible first | exact HB.out | apply bA_ | apply bN_ | apply b1_) | exact HB.out)) hb); have n1_ := As_.mk (hbox); have n2_ := As_.mk ((by rw [hg]; exact (bY_ (by repeat (first | (with_reducible first | exact HB.out | apply bA_ | apply bN_ | apply b1_) | exact HB.out))) : w.heap.size ≤ gb136)); have n3_ := As_.mk ((by rw [hg]; exact (bY_ (by repeat (first | (with_reducible first | exact HB.out | apply bA_ | apply bN_ | apply b1_) | exact HB.out))) : w.heap.size ≤ gb136)); clear HB; have HB := n0_; have BK136 := n1_; have GW136 := n2_; have GE136 := n3_; clear n0_ n1_ n2_ n3_; clear hb hbox hg; have hcz48_0 : w47.cell? ⟨gb136, 0, none⟩ = some (.int .i64 a0_0) := (bC_ BK136.out 0).trans rfl; have hcz48_1 : w47.cell? ⟨gb136, 1, none⟩ = some (.int .i64 a0_1) := (bC_ BK136.out 1).trans rfl; have hcz48_2 : w47.cell? ⟨gb136, 2, none⟩ = some (.int .i64 a0_2) := (bC_ BK136.out 2).trans rfl; have hcz48_3 : w47.cell? ⟨gb136, 3, none⟩ = some (.int .i64 a0_3) := (bC_ BK136.out 3).trans rfl; have hcz48_4 : w47.cell? ⟨gb136, 4, none⟩ = some (.int .i64 a0_4) := (bC_ BK136.out 4).trans rfl; have hcz48_5 : w47.cell? ⟨gb136, 5, none⟩ = some (.string a0_5) := (bC_ BK136.out 5).trans rfl; have hfz48_0 := bZ_ BK136.out 0; have hfz48_1 := bZ_ BK136.out 1; have hfz48_2 := bZ_ BK136.out 2; have hfz48_3 := bZ_ BK136.out 3; have hfz48_4 := bZ_ BK136.out 4; have hfz48_5 := bZ_ BK136.out 5) | (go_at_call 30; (with_reducible refine (r3_Valid.calls a0_0 false _ A2.out).mono ?_); rintro e w' ⟨rfl, ⟨nd, rfl⟩⟩; (try first | exact ⟨rfl, _, World.drewN_drewN _ _ _⟩ | exact ⟨rfl, _, Eq.trans (World.drewN_drewN _ _ _) (congrArg (World.drewN _) (Nat.add_assoc _ _ _))⟩))))
 go_ret
 exact ⟨by first | rfl | (simp [eN_, eS_] <;> rfl) | (simp [*, eN_, eS_] <;> rfl), by repeat (first | (with_reducible first | exact HB.out | apply bA_ | apply bN_ | apply b1_ | refine bS_ ?_ GE136.out) | exact HB.out)⟩
def r3_Word.j0 : Nat → Int → Int → Int → Int → Int → Int → Int → ByteArray → Option (Int)
  | 0, _, _, _, _, _, _, _, _ => none
  | k + 1, x3, x4, x155a, x155b, x155c, x155d, x155e, x155f => (r3_Bits.f k x3).bind fun t156 => (if t156 > 0 then ((r3_Bits.f k x3).bind fun t157 => (if 0 ≤ t156 then (some (Go.bits .or .u32 x4 (Go.bits .and .u32 ((x155e) % 4294967296) (((shl .u32 1 t156) - 1) % 4294967296)))) else (none))) else (some x4))
def r3_Word.f (k : Nat) (a0_0 : Int) (a0_1 : Int) (a0_2 : Int) (a0_3 : Int) (a0_4 : Int) (a0_5 : ByteArray) : Option (Int) := (r3_Form.f a0_0).bind fun t155 => (if t155 = 5 then (r3_Word.j0 k t155 (Go.bits .or .u32 (Go.bits .or .u32 ((((a0_0) % 4294967296) * 67108864) % 4294967296) ((((a0_2) % 4294967296) * 262144) % 4294967296)) ((((a0_3) % 4294967296) * 4194304) % 4294967296)) a0_0 a0_1 a0_2 a0_3 a0_4 a0_5) else (r3_Word.j0 k t155 (Go.bits .or .u32 (Go.bits .or .u32 (Go.bits .or .u32 ((((a0_0) % 4294967296) * 67108864) % 4294967296) ((((a0_2) % 4294967296) * 262144) % 4294967296)) ((((a0_1) % 4294967296) * 4194304) % 4294967296)) ((((a0_3) % 4294967296) * 16384) % 4294967296)) a0_0 a0_1 a0_2 a0_3 a0_4 a0_5))
set_option maxHeartbeats 8000000 in
set_option maxRecDepth 100000 in
theorem r3_Word.calls (k : Nat) (a0_0 : Int) (a0_1 : Int) (a0_2 : Int) (a0_3 : Int) (a0_4 : Int) (a0_5 : ByteArray) (r : Int) (w : World) (h : r3_Word.f k a0_0 a0_1 a0_2 a0_3 a0_4 a0_5 = some r) :
    Calls Try.prog 10 #[.agg #[.int .i64 a0_0, .int .i64 a0_1, .int .i64 a0_2, .int .i64 a0_3, .int .i64 a0_4, .string a0_5]] w fun e w' => e = .returned (.int .u32 r) ∧ Below w.heap.size w w' := by
 have hu35 := Try.underlying35
 have HB := As_.mk (Below.refl w.heap.size w)
 have H : ((r3_Form.f a0_0).bind fun t155 => (if t155 = 5 then (r3_Word.j0 k t155 (Go.bits .or .u32 (Go.bits .or .u32 ((((a0_0) % 4294967296) * 67108864) % 4294967296) ((((a0_2) % 4294967296) * 262144) % 4294967296)) ((((a0_3) % 4294967296) * 4194304) % 4294967296)) a0_0 a0_1 a0_2 a0_3 a0_4 a0_5) else (r3_Word.j0 k t155 (Go.bits .or .u32 (Go.bits .or .u32 (Go.bits .or .u32 ((((a0_0) % 4294967296) * 67108864) % 4294967296) ((((a0_2) % 4294967296) * 262144) % 4294967296)) ((((a0_1) % 4294967296) * 4194304) % 4294967296)) ((((a0_3) % 4294967296) * 16384) % 4294967296)) a0_0 a0_1 a0_2 a0_3 a0_4 a0_5))) = some r := h
 clear h
 replace H := Option.bind_eq_some_iff.mp H
 obtain ⟨t155, A20, H⟩ := H
 replace H : (if t155 = 5 then (r3_Word.j0 k t155 (Go.bits .or .u32 (Go.bits .or .u32 ((((a0_0) % 4294967296) * 67108864) % 4294967296) ((((a0_2) % 4294967296) * 262144) % 4294967296)) ((((a0_3) % 4294967296) * 4194304) % 4294967296)) a0_0 a0_1 a0_2 a0_3 a0_4 a0_5) else (r3_Word.j0 k t155 (Go.bits .or .u32 (Go.bits .or .u32 (Go.bits .or .u32 ((((a0_0) % 4294967296) * 67108864) % 4294967296) ((((a0_2) % 4294967296) * 262144) % 4294967296)) ((((a0_1) % 4294967296) * 4194304) % 4294967296)) ((((a0_3) % 4294967296) * 16384) % 4294967296)) a0_0 a0_1 a0_2 a0_3 a0_4 a0_5)) = some r := H
 have A2 := As_.mk A20
 clear A20
 have HC3 := As_.mk H
 clear H
 go_enter Try.func10, Try.ntmps10
 go_upto_if 18 with (first | ((with_reducible refine gate_dst (N := 1) rfl ?_); refine box_event ?hg (N := 1) ?hd (cs := #[.int .i64 a0_0, .int .i64 a0_1, .int .i64 a0_2, .int .i64 a0_3, .int .i64 a0_4, .string a0_5]) (t := 35) ?hr ?_; (case hd => rfl); (case hg => rfl); (case hr => first | (go_simp; done) | (go_simp; rfl)); intro gb154 hg w4 hbox hb; have n0_ := As_.mk (bT_ (by repeat (first | (with_reducible first | exact HB.out | apply bA_ | apply bN_ | apply b1_) | exact HB.out)) hb); have n1_ := As_.mk (hbox); have n2_ := As_.mk ((by rw [hg]; exact (bY_ (by repeat (first | (with_reducible first | exact HB.out | apply bA_ | apply bN_ | apply b1_) | exact HB.out))) : w.heap.size ≤ gb154)); have n3_ := As_.mk ((by rw [hg]; exact (bY_ (by repeat (first | (with_reducible first | exact HB.out | apply bA_ | apply bN_ | apply b1_) | exact HB.out))) : w.heap.size ≤ gb154)); clear HB; have HB := n0_; have BK154 := n1_; have GW154 := n2_; have GE154 := n3_; clear n0_ n1_ n2_ n3_; clear hb hbox hg; have hcz5_0 : w4.cell? ⟨gb154, 0, none⟩ = some (.int .i64 a0_0) := (bC_ BK154.out 0).trans rfl; have hcz5_1 : w4.cell? ⟨gb154, 1, none⟩ = some (.int .i64 a0_1) := (bC_ BK154.out 1).trans rfl; have hcz5_2 : w4.cell? ⟨gb154, 2, none⟩ = some (.int .i64 a0_2) := (bC_ BK154.out 2).trans rfl; have hcz5_3 : w4.cell? ⟨gb154, 3, none⟩ = some (.int .i64 a0_3) := (bC_ BK154.out 3).trans rfl; have hcz5_4 : w4.cell? ⟨gb154, 4, none⟩ = some (.int .i64 a0_4) := (bC_ BK154.out 4).trans rfl; have hcz5_5 : w4.cell? ⟨gb154, 5, none⟩ = some (.string a0_5) := (bC_ BK154.out 5).trans rfl; have hfz5_0 := bZ_ BK154.out 0; have hfz5_1 := bZ_ BK154.out 1; have hfz5_2 := bZ_ BK154.out 2; have hfz5_3 := bZ_ BK154.out 3; have hfz5_4 := bZ_ BK154.out 4; have hfz5_5 := bZ_ BK154.out 5) | (go_at_call 15; (with_reducible refine (r3_Form.calls a0_0 t155 _ A2.out).mono ?_); rintro e w6 ⟨rfl, hb⟩; have n0_ := As_.mk (kB_ (g := gb154) (o := .cells #[.int .i64 a0_0, .int .i64 a0_1, .int .i64 a0_2, .int .i64 a0_3, .int .i64 a0_4, .string a0_5] 35 (0, 0)) (by (with_reducible repeat (first | refine kN_ ?_ _ | refine kD_ ?_ | refine kA_ ?_ _)); exact BK154.out) hb); have n1_ := As_.mk (bT_ (by repeat (first | (with_reducible first | exact HB.out | apply bA_ | apply bN_ | apply b1_ | refine bS_ ?_ GE154.out) | exact HB.out)) hb); clear BK154; clear HB; have BK154 := n0_; have HB := n1_; clear n0_ n1_; have hcz7_0 : w6.cell? ⟨gb154, 0, none⟩ = some (.int .i64 a0_0) := (bC_ BK154.out 0).trans rfl; have hcz7_1 : w6.cell? ⟨gb154, 1, none⟩ = some (.int .i64 a0_1) := (bC_ BK154.out 1).trans rfl; have hcz7_2 : w6.cell? ⟨gb154, 2, none⟩ = some (.int .i64 a0_2) := (bC_ BK154.out 2).trans rfl; have hcz7_3 : w6.cell? ⟨gb154, 3, none⟩ = some (.int .i64 a0_3) := (bC_ BK154.out 3).trans rfl; have hcz7_4 : w6.cell? ⟨gb154, 4, none⟩ = some (.int .i64 a0_4) := (bC_ BK154.out 4).trans rfl; have hcz7_5 : w6.cell? ⟨gb154, 5, none⟩ = some (.string a0_5) := (bC_ BK154.out 5).trans rfl; have hfz7_0 := bZ_ BK154.out 0; have hfz7_1 := bZ_ BK154.out 1; have hfz7_2 := bZ_ BK154.out 2; have hfz7_3 := bZ_ BK154.out 3; have hfz7_4 := bZ_ BK154.out 4; have hfz7_5 := bZ_ BK154.out 5))
 repeat (go_quiet (first | ((with_reducible refine gate_dst (N := 1) rfl ?_); refine box_event ?hg (N := 1) ?hd (cs := #[.int .i64 a0_0, .int .i64 a0_1, .int .i64 a0_2, .int .i64 a0_3, .int .i64 a0_4, .string a0_5]) (t := 35) ?hr ?_; (case hd => rfl); (case hg => rfl); (case hr => first | (go_simp; done) | (go_simp; rfl)); intro gb154 hg w4 hbox hb; have n0_ := As_.mk (bT_ (by repeat (first | (with_reducible first | exact HB.out | apply bA_ | apply bN_ | apply b1_) | exact HB.out)) hb); have n1_ := As_.mk (hbox); have n2_ := As_.mk ((by rw [hg]; exact (bY_ (by repeat (first | (with_reducible first | exact HB.out | apply bA_ | apply bN_ | apply b1_) | exact HB.out))) : w.heap.size ≤ gb154)); have n3_ := As_.mk ((by rw [hg]; exact (bY_ (by repeat (first | (with_reducible first | exact HB.out | apply bA_ | apply bN_ | apply b1_) | exact HB.out))) : w.heap.size ≤ gb154)); clear HB; have HB := n0_; have BK154 := n1_; have GW154 := n2_; have GE154 := n3_; clear n0_ n1_ n2_ n3_; clear hb hbox hg; have hcz5_0 : w4.cell? ⟨gb154, 0, none⟩ = some (.int .i64 a0_0) := (bC_ BK154.out 0).trans rfl; have hcz5_1 : w4.cell? ⟨gb154, 1, none⟩ = some (.int .i64 a0_1) := (bC_ BK154.out 1).trans rfl; have hcz5_2 : w4.cell? ⟨gb154, 2, none⟩ = some (.int .i64 a0_2) := (bC_ BK154.out 2).trans rfl; have hcz5_3 : w4.cell? ⟨gb154, 3, none⟩ = some (.int .i64 a0_3) := (bC_ BK154.out 3).trans rfl; have hcz5_4 : w4.cell? ⟨gb154, 4, none⟩ = some (.int .i64 a0_4) := (bC_ BK154.out 4).trans rfl; have hcz5_5 : w4.cell? ⟨gb154, 5, none⟩ = some (.string a0_5) := (bC_ BK154.out 5).trans rfl; have hfz5_0 := bZ_ BK154.out 0; have hfz5_1 := bZ_ BK154.out 1; have hfz5_2 := bZ_ BK154.out 2; have hfz5_3 := bZ_ BK154.out 3; have hfz5_4 := bZ_ BK154.out 4; have hfz5_5 := bZ_ BK154.out 5) | (go_at_call 15; (with_reducible refine (r3_Form.calls a0_0 t155 _ A2.out).mono ?_); rintro e w6 ⟨rfl, hb⟩; have n0_ := As_.mk (kB_ (g := gb154) (o := .cells #[.int .i64 a0_0, .int .i64 a0_1, .int .i64 a0_2, .int .i64 a0_3, .int .i64 a0_4, .string a0_5] 35 (0, 0)) (by (with_reducible repeat (first | refine kN_ ?_ _ | refine kD_ ?_ | refine kA_ ?_ _)); exact BK154.out) hb); have n1_ := As_.mk (bT_ (by repeat (first | (with_reducible first | exact HB.out | apply bA_ | apply bN_ | apply b1_ | refine bS_ ?_ GE154.out) | exact HB.out)) hb); clear BK154; clear HB; have BK154 := n0_; have HB := n1_; clear n0_ n1_; have hcz7_0 : w6.cell? ⟨gb154, 0, none⟩ = some (.int .i64 a0_0) := (bC_ BK154.out 0).trans rfl; have hcz7_1 : w6.cell? ⟨gb154, 1, none⟩ = some (.int .i64 a0_1) := (bC_ BK154.out 1).trans rfl; have hcz7_2 : w6.cell? ⟨gb154, 2, none⟩ = some (.int .i64 a0_2) := (bC_ BK154.out 2).trans rfl; have hcz7_3 : w6.cell? ⟨gb154, 3, none⟩ = some (.int .i64 a0_3) := (bC_ BK154.out 3).trans rfl; have hcz7_4 : w6.cell? ⟨gb154, 4, none⟩ = some (.int .i64 a0_4) := (bC_ BK154.out 4).trans rfl; have hcz7_5 : w6.cell? ⟨gb154, 5, none⟩ = some (.string a0_5) := (bC_ BK154.out 5).trans rfl; have hfz7_0 := bZ_ BK154.out 0; have hfz7_1 := bZ_ BK154.out 1; have hfz7_2 := bZ_ BK154.out 2; have hfz7_3 := bZ_ BK154.out 3; have hfz7_4 := bZ_ BK154.out 4; have hfz7_5 := bZ_ BK154.out 5)); go_upto_if 18 with (first | ((with_reducible refine gate_dst (N := 1) rfl ?_); refine box_event ?hg (N := 1) ?hd (cs := #[.int .i64 a0_0, .int .i64 a0_1, .int .i64 a0_2, .int .i64 a0_3, .int .i64 a0_4, .string a0_5]) (t := 35) ?hr ?_; (case hd => rfl); (case hg => rfl); (case hr => first | (go_simp; done) | (go_simp; rfl)); intro gb154 hg w4 hbox hb; have n0_ := As_.mk (bT_ (by repeat (first | (with_reducible first | exact HB.out | apply bA_ | apply bN_ | apply b1_) | exact HB.out)) hb); have n1_ := As_.mk (hbox); have n2_ := As_.mk ((by rw [hg]; exact (bY_ (by repeat (first | (with_reducible first | exact HB.out | apply bA_ | apply bN_ | apply b1_) | exact HB.out))) : w.heap.size ≤ gb154)); have n3_ := As_.mk ((by rw [hg]; exact (bY_ (by repeat (first | (with_reducible first | exact HB.out | apply bA_ | apply bN_ | apply b1_) | exact HB.out))) : w.heap.size ≤ gb154)); clear HB; have HB := n0_; have BK154 := n1_; have GW154 := n2_; have GE154 := n3_; clear n0_ n1_ n2_ n3_; clear hb hbox hg; have hcz5_0 : w4.cell? ⟨gb154, 0, none⟩ = some (.int .i64 a0_0) := (bC_ BK154.out 0).trans rfl; have hcz5_1 : w4.cell? ⟨gb154, 1, none⟩ = some (.int .i64 a0_1) := (bC_ BK154.out 1).trans rfl; have hcz5_2 : w4.cell? ⟨gb154, 2, none⟩ = some (.int .i64 a0_2) := (bC_ BK154.out 2).trans rfl; have hcz5_3 : w4.cell? ⟨gb154, 3, none⟩ = some (.int .i64 a0_3) := (bC_ BK154.out 3).trans rfl; have hcz5_4 : w4.cell? ⟨gb154, 4, none⟩ = some (.int .i64 a0_4) := (bC_ BK154.out 4).trans rfl; have hcz5_5 : w4.cell? ⟨gb154, 5, none⟩ = some (.string a0_5) := (bC_ BK154.out 5).trans rfl; have hfz5_0 := bZ_ BK154.out 0; have hfz5_1 := bZ_ BK154.out 1; have hfz5_2 := bZ_ BK154.out 2; have hfz5_3 := bZ_ BK154.out 3; have hfz5_4 := bZ_ BK154.out 4; have hfz5_5 := bZ_ BK154.out 5) | (go_at_call 15; (with_reducible refine (r3_Form.calls a0_0 t155 _ A2.out).mono ?_); rintro e w6 ⟨rfl, hb⟩; have n0_ := As_.mk (kB_ (g := gb154) (o := .cells #[.int .i64 a0_0, .int .i64 a0_1, .int .i64 a0_2, .int .i64 a0_3, .int .i64 a0_4, .string a0_5] 35 (0, 0)) (by (with_reducible repeat (first | refine kN_ ?_ _ | refine kD_ ?_ | refine kA_ ?_ _)); exact BK154.out) hb); have n1_ := As_.mk (bT_ (by repeat (first | (with_reducible first | exact HB.out | apply bA_ | apply bN_ | apply b1_ | refine bS_ ?_ GE154.out) | exact HB.out)) hb); clear BK154; clear HB; have BK154 := n0_; have HB := n1_; clear n0_ n1_; have hcz7_0 : w6.cell? ⟨gb154, 0, none⟩ = some (.int .i64 a0_0) := (bC_ BK154.out 0).trans rfl; have hcz7_1 : w6.cell? ⟨gb154, 1, none⟩ = some (.int .i64 a0_1) := (bC_ BK154.out 1).trans rfl; have hcz7_2 : w6.cell? ⟨gb154, 2, none⟩ = some (.int .i64 a0_2) := (bC_ BK154.out 2).trans rfl; have hcz7_3 : w6.cell? ⟨gb154, 3, none⟩ = some (.int .i64 a0_3) := (bC_ BK154.out 3).trans rfl; have hcz7_4 : w6.cell? ⟨gb154, 4, none⟩ = some (.int .i64 a0_4) := (bC_ BK154.out 4).trans rfl; have hcz7_5 : w6.cell? ⟨gb154, 5, none⟩ = some (.string a0_5) := (bC_ BK154.out 5).trans rfl; have hfz7_0 := bZ_ BK154.out 0; have hfz7_1 := bZ_ BK154.out 1; have hfz7_2 := bZ_ BK154.out 2; have hfz7_3 := bZ_ BK154.out 3; have hfz7_4 := bZ_ BK154.out 4; have hfz7_5 := bZ_ BK154.out 5)))
 (try simp only [Act.put, List.setIfInBounds_toArray, List.set_cons_zero, List.set_cons_succ])
 go_cut [4] (fun v4 wc => ∃ (kq : Nat) (x4_2 : Int), v4 = .int .u32 x4_2 ∧ As_ (r3_Word.j0 kq t155 x4_2 a0_0 a0_1 a0_2 a0_3 a0_4 a0_5 = some r) ∧ As_ (kq ≤ k) ∧ As_ (wc.heap[gb154]? = some (.cells #[.int .i64 a0_0, .int .i64 a0_1, .int .i64 a0_2, .int .i64 a0_3, .int .i64 a0_4, .string a0_5] 35 (0, 0))) ∧ As_ (Below w.heap.size w wc))
 case first =>
  have H := HC3.out
  clear HC3
  by_cases c8 : t155 = 5
  ·rw [if_pos c8] at H
   have c8b0 : (t155 == 5) = true := beq_iff_eq.mpr c8
   have c8b1 : (t155 != 5) = false := bne_eq_false_iff_eq.mpr c8
   clear c8
   (first | rw [c8b0] | (simp only [i64_w, i32_w]; rw [c8b0]) | skip)
   have H' := As_.mk H
   clear H
   have hcz9_0 : w6.cell? ⟨gb154, 0, none⟩ = some (.int .i64 a0_0) := (bC_ BK154.out 0).trans rfl
   have hcz9_1 : w6.cell? ⟨gb154, 1, none⟩ = some (.int .i64 a0_1) := (bC_ BK154.out 1).trans rfl
   have hcz9_2 : w6.cell? ⟨gb154, 2, none⟩ = some (.int .i64 a0_2) := (bC_ BK154.out 2).trans rfl
   have hcz9_3 : w6.cell? ⟨gb154, 3, none⟩ = some (.int .i64 a0_3) := (bC_ BK154.out 3).trans rfl
   have hcz9_4 : w6.cell? ⟨gb154, 4, none⟩ = some (.int .i64 a0_4) := (bC_ BK154.out 4).trans rfl
   have hcz9_5 : w6.cell? ⟨gb154, 5, none⟩ = some (.string a0_5) := (bC_ BK154.out 5).trans rfl
   have hfz9_0 := bZ_ BK154.out 0
   have hfz9_1 := bZ_ BK154.out 1
   have hfz9_2 := bZ_ BK154.out 2
   have hfz9_3 := bZ_ BK154.out 3
   have hfz9_4 := bZ_ BK154.out 4
   have hfz9_5 := bZ_ BK154.out 5
   go_wp2
   repeat (go_quiet (fail); try go_wp2)
   go_meet
   case rel => exact ⟨_, (Go.bits .or .u32 (Go.bits .or .u32 ((((a0_0) % 4294967296) * 67108864) % 4294967296) ((((a0_2) % 4294967296) * 262144) % 4294967296)) ((((a0_3) % 4294967296) * 4194304) % 4294967296)), (by first | rfl | (simp; done) | (simp [*]; done) | (simp [wrap64]; done) | (congr 1; rw [Bool.eq_iff_iff]; simp; done)), H', ⟨by first | omega | exact Nat.le_refl _⟩, ⟨by (with_reducible repeat (first | refine kN_ ?_ _ | refine kD_ ?_ | refine kA_ ?_ _)); exact BK154.out⟩, ⟨by repeat (first | (with_reducible first | exact HB.out | apply bA_ | apply bN_ | apply b1_ | refine bS_ ?_ GE154.out) | exact HB.out)⟩⟩
  rw [if_neg c8] at H
  have c8b0 : (t155 == 5) = false := beq_eq_false_iff_ne.mpr c8
  have c8b1 : (t155 != 5) = true := bne_iff_ne.mpr c8
  (first | rw [c8b0] | (simp only [i64_w, i32_w]; rw [c8b0]) | skip)
  have H' := As_.mk H
  clear H
  have hcz10_0 : w6.cell? ⟨gb154, 0, none⟩ = some (.int .i64 a0_0) := (bC_ BK154.out 0).trans rfl
  have hcz10_1 : w6.cell? ⟨gb154, 1, none⟩ = some (.int .i64 a0_1) := (bC_ BK154.out 1).trans rfl
  have hcz10_2 : w6.cell? ⟨gb154, 2, none⟩ = some (.int .i64 a0_2) := (bC_ BK154.out 2).trans rfl
  have hcz10_3 : w6.cell? ⟨gb154, 3, none⟩ = some (.int .i64 a0_3) := (bC_ BK154.out 3).trans rfl
  have hcz10_4 : w6.cell? ⟨gb154, 4, none⟩ = some (.int .i64 a0_4) := (bC_ BK154.out 4).trans rfl
  have hcz10_5 : w6.cell? ⟨gb154, 5, none⟩ = some (.string a0_5) := (bC_ BK154.out 5).trans rfl
  have hfz10_0 := bZ_ BK154.out 0
  have hfz10_1 := bZ_ BK154.out 1
  have hfz10_2 := bZ_ BK154.out 2
  have hfz10_3 := bZ_ BK154.out 3
  have hfz10_4 := bZ_ BK154.out 4
  have hfz10_5 := bZ_ BK154.out 5
  go_wp2
  repeat (go_quiet (fail); try go_wp2)
  go_meet
  case rel => exact ⟨_, (Go.bits .or .u32 (Go.bits .or .u32 (Go.bits .or .u32 ((((a0_0) % 4294967296) * 67108864) % 4294967296) ((((a0_2) % 4294967296) * 262144) % 4294967296)) ((((a0_1) % 4294967296) * 4194304) % 4294967296)) ((((a0_3) % 4294967296) * 16384) % 4294967296)), (by first | rfl | (simp; done) | (simp [*]; done) | (simp [wrap64]; done) | (congr 1; rw [Bool.eq_iff_iff]; simp; done)), H', ⟨by first | omega | exact Nat.le_refl _⟩, ⟨by (with_reducible repeat (first | refine kN_ ?_ _ | refine kD_ ?_ | refine kA_ ?_ _)); exact BK154.out⟩, ⟨by repeat (first | (with_reducible first | exact HB.out | apply bA_ | apply bN_ | apply b1_ | refine bS_ ?_ GE154.out) | exact HB.out)⟩⟩
 case rest =>
  clear HC3
  obtain ⟨kq, x4_2, rfl, HA, HJ2, BK154, HB⟩ := hcut
  cases kq with
  | zero => exact absurd HA.out (by simp [r3_Word.j0])
  | succ kj2 =>
   have H := HA.out
   clear HA
   simp only [r3_Word.j0] at H
   replace H := Option.bind_eq_some_iff.mp H
   obtain ⟨t156, A110, H⟩ := H
   replace H : (if t156 > 0 then ((r3_Bits.f kj2 t155).bind fun t157 => (if 0 ≤ t156 then (some (Go.bits .or .u32 x4_2 (Go.bits .and .u32 ((a0_4) % 4294967296) (((shl .u32 1 t156) - 1) % 4294967296)))) else (none))) else (some x4_2)) = some r := H
   have A11 := As_.mk A110
   clear A110
   by_cases c12 : t156 > 0
   ·rw [if_pos c12] at H
    have c12b0 : decide (0 < t156) = true := decide_eq_true c12
    clear c12
    replace H := Option.bind_eq_some_iff.mp H
    obtain ⟨t157, A130, H⟩ := H
    replace H : (if 0 ≤ t156 then (some (Go.bits .or .u32 x4_2 (Go.bits .and .u32 ((a0_4) % 4294967296) (((shl .u32 1 t156) - 1) % 4294967296)))) else (none)) = some r := H
    have A13 := As_.mk A130
    clear A130
    obtain rfl : t156 = t157 := Option.some.inj (A11.out.symm.trans A13.out)
    by_cases c14 : 0 ≤ t156
    ·rw [if_pos c14] at H
     have c14b0 := eq_true c14
     have c14b1 : decide (0 ≤ t156) = true := decide_eq_true c14
     clear c14
     obtain ⟨ji15, hji15⟩ : ∃ j_ : Int, (shl .u32 1 t156) = j_ := ⟨_, rfl⟩
     replace H : (some (Go.bits .or .u32 x4_2 (Go.bits .and .u32 ((a0_4) % 4294967296) (((ji15) - 1) % 4294967296)))) = some r := by first | (rw [hji15] at H; exact H) | (simp only [hji15] at H ⊢; exact H)
     (try rw [hji15] at A11)
     (try rw [hji15] at A13)
     have hji15_ : (IntKind.u32.wrap (1 * 2 ^ min t156.toNat 32)) = ji15 := hji15
     have hji15z : t156 ≤ 32 → (IntKind.u32.wrap (1 * 2 ^ t156.toNat)) = ji15 := shl_small hji15
     have hji15u : (IntKind.u32.wrap (2 ^ min t156.toNat 32)) = ji15 := by have h_ := hji15_; rw [Int.one_mul] at h_; exact h_
     have hji15v : t156 ≤ 32 → (IntKind.u32.wrap (2 ^ t156.toNat)) = ji15 := fun hle_ => by have h_ := hji15z hle_; rw [Int.one_mul] at h_; exact h_
     obtain rfl := Option.some.inj H
     go_wp2_with (first | (go_at_call 19; (with_reducible refine (r3_Bits.calls kj2 t155 t156 _ A11.out).mono ?_); rintro e w' ⟨rfl, ⟨nd, rfl⟩⟩; (try first | exact ⟨rfl, _, World.drewN_drewN _ _ _⟩ | exact ⟨rfl, _, Eq.trans (World.drewN_drewN _ _ _) (congrArg (World.drewN _) (Nat.add_assoc _ _ _))⟩); have hcz16_0 : wc.cell? ⟨gb154, 0, none⟩ = some (.int .i64 a0_0) := (bC_ BK154.out 0).trans rfl; have hcz16_1 : wc.cell? ⟨gb154, 1, none⟩ = some (.int .i64 a0_1) := (bC_ BK154.out 1).trans rfl; have hcz16_2 : wc.cell? ⟨gb154, 2, none⟩ = some (.int .i64 a0_2) := (bC_ BK154.out 2).trans rfl; have hcz16_3 : wc.cell? ⟨gb154, 3, none⟩ = some (.int .i64 a0_3) := (bC_ BK154.out 3).trans rfl; have hcz16_4 : wc.cell? ⟨gb154, 4, none⟩ = some (.int .i64 a0_4) := (bC_ BK154.out 4).trans rfl; have hcz16_5 : wc.cell? ⟨gb154, 5, none⟩ = some (.string a0_5) := (bC_ BK154.out 5).trans rfl; have hfz16_0 := bZ_ BK154.out 0; have hfz16_1 := bZ_ BK154.out 1; have hfz16_2 := bZ_ BK154.out 2; have hfz16_3 := bZ_ BK154.out 3; have hfz16_4 := bZ_ BK154.out 4; have hfz16_5 := bZ_ BK154.out 5) | (go_at_call 19; (with_reducible refine (r3_Bits.calls kj2 t155 t156 _ A13.out).mono ?_); rintro e w' ⟨rfl, ⟨nd, rfl⟩⟩; (try first | exact ⟨rfl, _, World.drewN_drewN _ _ _⟩ | exact ⟨rfl, _, Eq.trans (World.drewN_drewN _ _ _) (congrArg (World.drewN _) (Nat.add_assoc _ _ _))⟩)))
     repeat (go_quiet (first | (go_at_call 19; (with_reducible refine (r3_Bits.calls kj2 t155 t156 _ A11.out).mono ?_); rintro e w' ⟨rfl, ⟨nd, rfl⟩⟩; (try first | exact ⟨rfl, _, World.drewN_drewN _ _ _⟩ | exact ⟨rfl, _, Eq.trans (World.drewN_drewN _ _ _) (congrArg (World.drewN _) (Nat.add_assoc _ _ _))⟩); have hcz16_0 : wc.cell? ⟨gb154, 0, none⟩ = some (.int .i64 a0_0) := (bC_ BK154.out 0).trans rfl; have hcz16_1 : wc.cell? ⟨gb154, 1, none⟩ = some (.int .i64 a0_1) := (bC_ BK154.out 1).trans rfl; have hcz16_2 : wc.cell? ⟨gb154, 2, none⟩ = some (.int .i64 a0_2) := (bC_ BK154.out 2).trans rfl; have hcz16_3 : wc.cell? ⟨gb154, 3, none⟩ = some (.int .i64 a0_3) := (bC_ BK154.out 3).trans rfl; have hcz16_4 : wc.cell? ⟨gb154, 4, none⟩ = some (.int .i64 a0_4) := (bC_ BK154.out 4).trans rfl; have hcz16_5 : wc.cell? ⟨gb154, 5, none⟩ = some (.string a0_5) := (bC_ BK154.out 5).trans rfl; have hfz16_0 := bZ_ BK154.out 0; have hfz16_1 := bZ_ BK154.out 1; have hfz16_2 := bZ_ BK154.out 2; have hfz16_3 := bZ_ BK154.out 3; have hfz16_4 := bZ_ BK154.out 4; have hfz16_5 := bZ_ BK154.out 5) | (go_at_call 19; (with_reducible refine (r3_Bits.calls kj2 t155 t156 _ A13.out).mono ?_); rintro e w' ⟨rfl, ⟨nd, rfl⟩⟩; (try first | exact ⟨rfl, _, World.drewN_drewN _ _ _⟩ | exact ⟨rfl, _, Eq.trans (World.drewN_drewN _ _ _) (congrArg (World.drewN _) (Nat.add_assoc _ _ _))⟩))); try go_wp2_with (first | (go_at_call 19; (with_reducible refine (r3_Bits.calls kj2 t155 t156 _ A11.out).mono ?_); rintro e w' ⟨rfl, ⟨nd, rfl⟩⟩; (try first | exact ⟨rfl, _, World.drewN_drewN _ _ _⟩ | exact ⟨rfl, _, Eq.trans (World.drewN_drewN _ _ _) (congrArg (World.drewN _) (Nat.add_assoc _ _ _))⟩); have hcz16_0 : wc.cell? ⟨gb154, 0, none⟩ = some (.int .i64 a0_0) := (bC_ BK154.out 0).trans rfl; have hcz16_1 : wc.cell? ⟨gb154, 1, none⟩ = some (.int .i64 a0_1) := (bC_ BK154.out 1).trans rfl; have hcz16_2 : wc.cell? ⟨gb154, 2, none⟩ = some (.int .i64 a0_2) := (bC_ BK154.out 2).trans rfl; have hcz16_3 : wc.cell? ⟨gb154, 3, none⟩ = some (.int .i64 a0_3) := (bC_ BK154.out 3).trans rfl; have hcz16_4 : wc.cell? ⟨gb154, 4, none⟩ = some (.int .i64 a0_4) := (bC_ BK154.out 4).trans rfl; have hcz16_5 : wc.cell? ⟨gb154, 5, none⟩ = some (.string a0_5) := (bC_ BK154.out 5).trans rfl; have hfz16_0 := bZ_ BK154.out 0; have hfz16_1 := bZ_ BK154.out 1; have hfz16_2 := bZ_ BK154.out 2; have hfz16_3 := bZ_ BK154.out 3; have hfz16_4 := bZ_ BK154.out 4; have hfz16_5 := bZ_ BK154.out 5) | (go_at_call 19; (with_reducible refine (r3_Bits.calls kj2 t155 t156 _ A13.out).mono ?_); rintro e w' ⟨rfl, ⟨nd, rfl⟩⟩; (try first | exact ⟨rfl, _, World.drewN_drewN _ _ _⟩ | exact ⟨rfl, _, Eq.trans (World.drewN_drewN _ _ _) (congrArg (World.drewN _) (Nat.add_assoc _ _ _))⟩))))
     go_ret
     exact ⟨by first | rfl | (simp [eN_, eS_] <;> rfl) | (simp only [← hji15]; first | rfl | (simp [eN_, eS_] <;> rfl)) | (simp [*, eN_, eS_] <;> rfl), by repeat (first | (with_reducible first | exact HB.out | apply bA_ | apply bN_ | apply b1_ | refine bS_ ?_ GE154.out) | exact HB.out)⟩
    rw [if_neg c14] at H
    exact absurd H (by simp)
   rw [if_neg c12] at H
   have c12b0 : decide (0 < t156) = false := decide_eq_false c12
   clear c12
   obtain rfl := Option.some.inj H
   go_wp2_with (first | (go_at_call 19; (with_reducible refine (r3_Bits.calls kj2 t155 t156 _ A11.out).mono ?_); rintro e w' ⟨rfl, ⟨nd, rfl⟩⟩; (try first | exact ⟨rfl, _, World.drewN_drewN _ _ _⟩ | exact ⟨rfl, _, Eq.trans (World.drewN_drewN _ _ _) (congrArg (World.drewN _) (Nat.add_assoc _ _ _))⟩)))
   repeat (go_quiet (first | (go_at_call 19; (with_reducible refine (r3_Bits.calls kj2 t155 t156 _ A11.out).mono ?_); rintro e w' ⟨rfl, ⟨nd, rfl⟩⟩; (try first | exact ⟨rfl, _, World.drewN_drewN _ _ _⟩ | exact ⟨rfl, _, Eq.trans (World.drewN_drewN _ _ _) (congrArg (World.drewN _) (Nat.add_assoc _ _ _))⟩))); try go_wp2_with (first | (go_at_call 19; (with_reducible refine (r3_Bits.calls kj2 t155 t156 _ A11.out).mono ?_); rintro e w' ⟨rfl, ⟨nd, rfl⟩⟩; (try first | exact ⟨rfl, _, World.drewN_drewN _ _ _⟩ | exact ⟨rfl, _, Eq.trans (World.drewN_drewN _ _ _) (congrArg (World.drewN _) (Nat.add_assoc _ _ _))⟩))))
   go_ret
   exact ⟨by first | rfl | (simp [eN_, eS_] <;> rfl) | (simp [*, eN_, eS_] <;> rfl), by repeat (first | (with_reducible first | exact HB.out | apply bA_ | apply bN_ | apply b1_ | refine bS_ ?_ GE154.out) | exact HB.out)⟩
def w4_num.f (a0 : Int) : Option (Int) := some a0
set_option maxHeartbeats 8000000 in
set_option maxRecDepth 100000 in
theorem w4_num.calls (a0 : Int) (r : Int) (w : World) (h : w4_num.f a0 = some r) :
    Calls Try.prog 11 #[.int .i64 a0] w fun e w' => e = .returned (.int .i64 r) ∧ Dr_ w w' := by
 have H : (some a0) = some r := h
 clear h
 obtain rfl := Option.some.inj H
 go_enter Try.func11, Try.ntmps11
 go_wp2
 go_ret
 exact ⟨by first | rfl | (simp; done) | (simp [*]; done) | (simp [wrap64]; done) | (congr 1; rw [Bool.eq_iff_iff]; simp; done), by repeat (first | exact Dr_.refl _ | apply Dr_.step)⟩
def word_Signed.f (a0 : Int) (a1 : Int) : Option (Int) := if 0 ≤ (wrap64 (32 - a1)) then (some (wrap64 (shr .i32 (wrap32 (shl .u32 a0 (wrap64 (32 - a1)))) (wrap64 (32 - a1))))) else (none)
set_option maxHeartbeats 8000000 in
set_option maxRecDepth 100000 in
theorem word_Signed.calls (a0 : Int) (a1 : Int) (r : Int) (w : World) (h : word_Signed.f a0 a1 = some r) :
    Calls Try.prog 42 #[.int .u32 a0, .int .i64 a1] w fun e w' => e = .returned (.int .i64 r) ∧ Dr_ w w' := by
 have H : (if 0 ≤ (wrap64 (32 - a1)) then (some (wrap64 (shr .i32 (wrap32 (shl .u32 a0 (wrap64 (32 - a1)))) (wrap64 (32 - a1))))) else (none)) = some r := h
 clear h
 obtain ⟨ji3, hji3⟩ : ∃ j_ : Int, (wrap64 (32 - a1)) = j_ := ⟨_, rfl⟩
 replace H : (if 0 ≤ (ji3) then (some (wrap64 (shr .i32 (wrap32 (shl .u32 a0 (ji3))) (ji3)))) else (none)) = some r := by first | (rw [hji3] at H; exact H) | (simp only [hji3] at H ⊢; exact H)
 have hji3w : (IntKind.i64.wrap (32 - a1)) = ji3 := (i64_w _).trans hji3
 by_cases c4 : 0 ≤ (ji3)
 ·rw [if_pos c4] at H
  have c4b0 := eq_true c4
  have c4b1 : decide (0 ≤ (ji3)) = true := decide_eq_true c4
  clear c4
  obtain ⟨ji5, hji5⟩ : ∃ j_ : Int, (shl .u32 a0 (ji3)) = j_ := ⟨_, rfl⟩
  replace H : (some (wrap64 (shr .i32 (wrap32 (ji5)) (ji3)))) = some r := by first | (rw [hji5] at H; exact H) | (simp only [hji5] at H ⊢; exact H)
  have hji5_ : (IntKind.u32.wrap (a0 * 2 ^ min (ji3).toNat 32)) = ji5 := hji5
  have hji5z : (ji3) ≤ 32 → (IntKind.u32.wrap (a0 * 2 ^ (ji3).toNat)) = ji5 := shl_small hji5
  have c6b0 := eq_true (of_decide_eq_true (by assumption) : 0 ≤ (ji3))
  obtain ⟨ji7, hji7⟩ : ∃ j_ : Int, (shr .i32 (wrap32 (ji5)) (ji3)) = j_ := ⟨_, rfl⟩
  replace H : (some (wrap64 (ji7))) = some r := by first | (rw [hji7] at H; exact H) | (simp only [hji7] at H ⊢; exact H)
  have hji7_ : ((wrap32 (ji5)) / 2 ^ min (ji3).toNat 32) = ji7 := hji7
  have hji7z : (ji3) ≤ 32 → ((wrap32 (ji5)) / 2 ^ (ji3).toNat) = ji7 := shr_small hji7
  obtain rfl := Option.some.inj H
  go_enter Try.func42, Try.ntmps42
  go_wp2
  go_ret
  exact ⟨by first | rfl | (simp; done) | (simp only [← hji3, ← hji5, ← hji7] <;> (first | rfl | simp)) | (simp [*]; done) | (congr 1; rw [Bool.eq_iff_iff]; simp; done), by repeat (first | exact Dr_.refl _ | apply Dr_.step)⟩
 rw [if_neg c4] at H
 exact absurd H (by simp)
end Go.Proofs.Ytfnchdlgkkdegaa.PAll
