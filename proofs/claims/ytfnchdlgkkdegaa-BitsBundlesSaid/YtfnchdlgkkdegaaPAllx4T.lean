-- the texts that this claim needs, out of this session's and its print's (wip/shrink.py)
import Derived.Test.YtfnchdlgkkdegaaPAllx0T
import Derived.Test.YtfnchdlgkkdegaaPAllx3T
namespace Go.Proofs.Ytfnchdlgkkdegaa.PAll
open Go.RowKit Go.Proofs.YtfnchdlgkkdegaaW.PrintWords Go.Proofs.YtfnchdlgkkdegaaW.PrintLast Go.Proofs.YtfnchdlgkkdegaaW.PrintMore
attribute [local go_sem] max2_int min2_int max_two min_two max_three min_three max_four min_four   -- for this text's walks alone
set_option linter.unusedVariables false
set_option linter.unusedSimpArgs false
mutual
def isa_imm.j0 : Nat → Int → Bool → Int → Int → Int → Int → Int → ByteArray → Option (Bool)
  | 0, _, _, _, _, _, _, _, _ => none
  | k + 1, x1, x5, x104a, x104b, x104c, x104d, x104e, x104f => if x5 = true then (if x104e = 0 then ((isa_Name2.f k x104f).bind fun t105 => (some t105)) else (some false)) else ((isa_Target.f x1).bind fun t106 => (if t106 = true then (if x104e ≥ 0 then (some (decide (x104e < 1024))) else (some false)) else (if x1 = 4 then (if x104f.toList = ([] : List UInt8) then (isa_imm.j1 k x1 false x104a x104b x104c x104d x104e x104f) else ((isa_Name2.f k x104f).bind fun t107 => (isa_imm.j1 k x1 (!t107) x104a x104b x104c x104d x104e x104f))) else (isa_imm.j1 k x1 false x104a x104b x104c x104d x104e x104f))))
def isa_imm.j1 : Nat → Int → Bool → Int → Int → Int → Int → Int → ByteArray → Option (Bool)
  | 0, _, _, _, _, _, _, _, _ => none
  | k + 1, x1, x32, x104a, x104b, x104c, x104d, x104e, x104f => if x32 = true then (isa_imm.j2 k x1 x32 x104a x104b x104c x104d x104e x104f) else (if x1 = 4 then (isa_imm.j2 k x1 false x104a x104b x104c x104d x104e x104f) else (isa_imm.j2 k x1 (x104f.toList != ([] : List UInt8)) x104a x104b x104c x104d x104e x104f))
def isa_imm.j2 : Nat → Int → Bool → Int → Int → Int → Int → Int → ByteArray → Option (Bool)
  | 0, _, _, _, _, _, _, _, _ => none
  | k + 1, x1, x32, x104a, x104b, x104c, x104d, x104e, x104f => if x32 = true then (some false) else ((isa_Bits.f k x1).bind fun t108 => (if t108 = 0 then (some (x104e == 0)) else ((isa_Bits.f k x1).bind fun t109 => ((word_Within.f x104e t108).bind fun t110 => (some t110)))))
end
def isa_imm.f (k : Nat) (a0_0 : Int) (a0_1 : Int) (a0_2 : Int) (a0_3 : Int) (a0_4 : Int) (a0_5 : ByteArray) (a1 : Int) : Option (Bool) := (isa_Target.f a1).bind fun t104 => (if t104 = true then (isa_imm.j0 k a1 (a0_5.toList != ([] : List UInt8)) a0_0 a0_1 a0_2 a0_3 a0_4 a0_5) else (isa_imm.j0 k a1 false a0_0 a0_1 a0_2 a0_3 a0_4 a0_5))
theorem isa_imm.mono_l : ∀ k, (∀ y0 y1 y2 y3 y4 y5 y6 y7, LeO (isa_imm.j0 k y0 y1 y2 y3 y4 y5 y6 y7) (isa_imm.j0 (k + 1) y0 y1 y2 y3 y4 y5 y6 y7)) ∧ (∀ y0 y1 y2 y3 y4 y5 y6 y7, LeO (isa_imm.j1 k y0 y1 y2 y3 y4 y5 y6 y7) (isa_imm.j1 (k + 1) y0 y1 y2 y3 y4 y5 y6 y7)) ∧ (∀ y0 y1 y2 y3 y4 y5 y6 y7, LeO (isa_imm.j2 k y0 y1 y2 y3 y4 y5 y6 y7) (isa_imm.j2 (k + 1) y0 y1 y2 y3 y4 y5 y6 y7))
  | 0 => ⟨fun _ _ _ _ _ _ _ _ r h => by simp [isa_imm.j0] at h, fun _ _ _ _ _ _ _ _ r h => by simp [isa_imm.j1] at h, fun _ _ _ _ _ _ _ _ r h => by simp [isa_imm.j2] at h⟩
  | k + 1 => by
    obtain ⟨ih0, ih1, ih2⟩ := isa_imm.mono_l k
    refine ⟨?_, ?_, ?_⟩
    · intro y0 y1 y2 y3 y4 y5 y6 y7
      unfold isa_imm.j0
      repeat' first
      | (with_reducible exact ih0 _ _ _ _ _ _ _ _)
      | (with_reducible exact ih1 _ _ _ _ _ _ _ _)
      | (with_reducible exact ih2 _ _ _ _ _ _ _ _)
      | (with_reducible exact isa_Bits.mono _ _)
      | (with_reducible exact isa_Name2.mono _ _)
      | (with_reducible exact LeO.refl _)
      | (with_reducible exact LeO.none _)
      | (with_reducible refine LeO.ite ?_ ?_)
      | (with_reducible refine LeO.bind ?_ (fun _ => ?_))
      | exact LeO.none _
      | refine LeO.ite ?_ ?_
      | refine LeO.bind ?_ (fun _ => ?_)
    · intro y0 y1 y2 y3 y4 y5 y6 y7
      unfold isa_imm.j1
      repeat' first
      | (with_reducible exact ih0 _ _ _ _ _ _ _ _)
      | (with_reducible exact ih1 _ _ _ _ _ _ _ _)
      | (with_reducible exact ih2 _ _ _ _ _ _ _ _)
      | (with_reducible exact isa_Bits.mono _ _)
      | (with_reducible exact isa_Name2.mono _ _)
      | (with_reducible exact LeO.refl _)
      | (with_reducible exact LeO.none _)
      | (with_reducible refine LeO.ite ?_ ?_)
      | (with_reducible refine LeO.bind ?_ (fun _ => ?_))
      | exact LeO.none _
      | refine LeO.ite ?_ ?_
      | refine LeO.bind ?_ (fun _ => ?_)
    · intro y0 y1 y2 y3 y4 y5 y6 y7
      unfold isa_imm.j2
      repeat' first
      | (with_reducible exact ih0 _ _ _ _ _ _ _ _)
      | (with_reducible exact ih1 _ _ _ _ _ _ _ _)
      | (with_reducible exact ih2 _ _ _ _ _ _ _ _)
      | (with_reducible exact isa_Bits.mono _ _)
      | (with_reducible exact isa_Name2.mono _ _)
      | (with_reducible exact LeO.refl _)
      | (with_reducible exact LeO.none _)
      | (with_reducible refine LeO.ite ?_ ?_)
      | (with_reducible refine LeO.bind ?_ (fun _ => ?_))
      | exact LeO.none _
      | refine LeO.ite ?_ ?_
      | refine LeO.bind ?_ (fun _ => ?_)
theorem isa_imm.mono : ∀ a0 a1 a2 a3 a4 a5 a6 k, LeO (isa_imm.f k a0 a1 a2 a3 a4 a5 a6) (isa_imm.f (k + 1) a0 a1 a2 a3 a4 a5 a6) := by
 intro a0 a1 a2 a3 a4 a5 a6 k
 obtain ⟨ih0, ih1, ih2⟩ := isa_imm.mono_l k
 unfold isa_imm.f
 repeat' first
  | (with_reducible exact ih0 _ _ _ _ _ _ _ _)
  | (with_reducible exact ih1 _ _ _ _ _ _ _ _)
  | (with_reducible exact ih2 _ _ _ _ _ _ _ _)
  | (with_reducible exact isa_Bits.mono _ _)
  | (with_reducible exact isa_Name2.mono _ _)
  | (with_reducible exact LeO.refl _)
  | (with_reducible exact LeO.none _)
  | (with_reducible refine LeO.ite ?_ ?_)
  | (with_reducible refine LeO.bind ?_ (fun _ => ?_))
  | exact LeO.none _
  | refine LeO.ite ?_ ?_
  | refine LeO.bind ?_ (fun _ => ?_)
set_option maxHeartbeats 8000000 in
set_option maxRecDepth 100000 in
theorem isa_imm.calls (k : Nat) (a0_0 : Int) (a0_1 : Int) (a0_2 : Int) (a0_3 : Int) (a0_4 : Int) (a0_5 : ByteArray) (a1 : Int) (r : Bool) (w : World) (h : isa_imm.f k a0_0 a0_1 a0_2 a0_3 a0_4 a0_5 a1 = some r) :
    Calls Try.prog 52 #[.agg #[.int .i64 a0_0, .int .i64 a0_1, .int .i64 a0_2, .int .i64 a0_3, .int .i64 a0_4, .string a0_5], .int .i64 a1] w fun e w' => e = .returned (.bool r) ∧ Below w.heap.size w w' := by
 have hu35 := Try.underlying35
 have HB := As_.mk (Below.refl w.heap.size w)
 have H : ((isa_Target.f a1).bind fun t104 => (if t104 = true then (isa_imm.j0 k a1 (a0_5.toList != ([] : List UInt8)) a0_0 a0_1 a0_2 a0_3 a0_4 a0_5) else (isa_imm.j0 k a1 false a0_0 a0_1 a0_2 a0_3 a0_4 a0_5))) = some r := h
 clear h
 have HC3 := As_.mk H
 clear H
 go_enter Try.func52, Try.ntmps52
 go_upto_region 1 with (first | ((with_reducible refine gate_dst (N := 2) rfl ?_); refine box_event ?hg (N := 2) ?hd (cs := #[.int .i64 a0_0, .int .i64 a0_1, .int .i64 a0_2, .int .i64 a0_3, .int .i64 a0_4, .string a0_5]) (t := 35) ?hr ?_; (case hd => rfl); (case hg => rfl); (case hr => first | (go_simp; done) | (go_simp; rfl)); intro gb103 hg w4 hbox hb; have n0_ := As_.mk (bT_ (by repeat (first | (with_reducible first | exact HB.out | apply bA_ | apply bN_ | apply b1_) | exact HB.out)) hb); have n1_ := As_.mk (hbox); have n2_ := As_.mk ((by rw [hg]; exact (bY_ (by repeat (first | (with_reducible first | exact HB.out | apply bA_ | apply bN_ | apply b1_) | exact HB.out))) : w.heap.size ≤ gb103)); have n3_ := As_.mk ((by rw [hg]; exact (bY_ (by repeat (first | (with_reducible first | exact HB.out | apply bA_ | apply bN_ | apply b1_) | exact HB.out))) : w.heap.size ≤ gb103)); clear HB; have HB := n0_; have BK103 := n1_; have GW103 := n2_; have GE103 := n3_; clear n0_ n1_ n2_ n3_; clear hb hbox hg))
 repeat (go_quiet (first | ((with_reducible refine gate_dst (N := 2) rfl ?_); refine box_event ?hg (N := 2) ?hd (cs := #[.int .i64 a0_0, .int .i64 a0_1, .int .i64 a0_2, .int .i64 a0_3, .int .i64 a0_4, .string a0_5]) (t := 35) ?hr ?_; (case hd => rfl); (case hg => rfl); (case hr => first | (go_simp; done) | (go_simp; rfl)); intro gb103 hg w4 hbox hb; have n0_ := As_.mk (bT_ (by repeat (first | (with_reducible first | exact HB.out | apply bA_ | apply bN_ | apply b1_) | exact HB.out)) hb); have n1_ := As_.mk (hbox); have n2_ := As_.mk ((by rw [hg]; exact (bY_ (by repeat (first | (with_reducible first | exact HB.out | apply bA_ | apply bN_ | apply b1_) | exact HB.out))) : w.heap.size ≤ gb103)); have n3_ := As_.mk ((by rw [hg]; exact (bY_ (by repeat (first | (with_reducible first | exact HB.out | apply bA_ | apply bN_ | apply b1_) | exact HB.out))) : w.heap.size ≤ gb103)); clear HB; have HB := n0_; have BK103 := n1_; have GW103 := n2_; have GE103 := n3_; clear n0_ n1_ n2_ n3_; clear hb hbox hg)); go_upto_region 1 with (first | ((with_reducible refine gate_dst (N := 2) rfl ?_); refine box_event ?hg (N := 2) ?hd (cs := #[.int .i64 a0_0, .int .i64 a0_1, .int .i64 a0_2, .int .i64 a0_3, .int .i64 a0_4, .string a0_5]) (t := 35) ?hr ?_; (case hd => rfl); (case hg => rfl); (case hr => first | (go_simp; done) | (go_simp; rfl)); intro gb103 hg w4 hbox hb; have n0_ := As_.mk (bT_ (by repeat (first | (with_reducible first | exact HB.out | apply bA_ | apply bN_ | apply b1_) | exact HB.out)) hb); have n1_ := As_.mk (hbox); have n2_ := As_.mk ((by rw [hg]; exact (bY_ (by repeat (first | (with_reducible first | exact HB.out | apply bA_ | apply bN_ | apply b1_) | exact HB.out))) : w.heap.size ≤ gb103)); have n3_ := As_.mk ((by rw [hg]; exact (bY_ (by repeat (first | (with_reducible first | exact HB.out | apply bA_ | apply bN_ | apply b1_) | exact HB.out))) : w.heap.size ≤ gb103)); clear HB; have HB := n0_; have BK103 := n1_; have GW103 := n2_; have GE103 := n3_; clear n0_ n1_ n2_ n3_; clear hb hbox hg)))
 (try simp only [Act.put, List.setIfInBounds_toArray, List.set_cons_zero, List.set_cons_succ])
 go_cut [5] (fun v5 wc => ∃ (kq : Nat) (x5_2 : Bool), v5 = .bool x5_2 ∧ As_ (isa_imm.j0 kq a1 x5_2 a0_0 a0_1 a0_2 a0_3 a0_4 a0_5 = some r) ∧ As_ (kq ≤ k) ∧ As_ (wc.heap[gb103]? = some (.cells #[.int .i64 a0_0, .int .i64 a0_1, .int .i64 a0_2, .int .i64 a0_3, .int .i64 a0_4, .string a0_5] 35 (0, 0))) ∧ As_ (Below w.heap.size w wc))
 case first =>
  have H := HC3.out
  clear HC3
  replace H := Option.bind_eq_some_iff.mp H
  obtain ⟨t104, A50, H⟩ := H
  replace H : (if t104 = true then (isa_imm.j0 k a1 (a0_5.toList != ([] : List UInt8)) a0_0 a0_1 a0_2 a0_3 a0_4 a0_5) else (isa_imm.j0 k a1 false a0_0 a0_1 a0_2 a0_3 a0_4 a0_5)) = some r := H
  have A5 := As_.mk A50
  clear A50
  by_cases c6 : t104 = true
  ·subst c6
   have H1 : (isa_imm.j0 k a1 (a0_5.toList != ([] : List UInt8)) a0_0 a0_1 a0_2 a0_3 a0_4 a0_5) = some r := by rw [if_pos rfl] at H; exact H
   clear H
   have H := H1
   clear H1
   have H' := As_.mk H
   clear H
   go_wp2_with (first | (go_at_call 40; (with_reducible refine (isa_Target.calls a1 true _ A5.out).mono ?_); rintro e w' ⟨rfl, ⟨nd, rfl⟩⟩; (try first | exact ⟨rfl, _, World.drewN_drewN _ _ _⟩ | exact ⟨rfl, _, Eq.trans (World.drewN_drewN _ _ _) (congrArg (World.drewN _) (Nat.add_assoc _ _ _))⟩); have hcz7_0 : w4.cell? ⟨gb103, 0, none⟩ = some (.int .i64 a0_0) := (bC_ BK103.out 0).trans rfl; have hcz7_1 : w4.cell? ⟨gb103, 1, none⟩ = some (.int .i64 a0_1) := (bC_ BK103.out 1).trans rfl; have hcz7_2 : w4.cell? ⟨gb103, 2, none⟩ = some (.int .i64 a0_2) := (bC_ BK103.out 2).trans rfl; have hcz7_3 : w4.cell? ⟨gb103, 3, none⟩ = some (.int .i64 a0_3) := (bC_ BK103.out 3).trans rfl; have hcz7_4 : w4.cell? ⟨gb103, 4, none⟩ = some (.int .i64 a0_4) := (bC_ BK103.out 4).trans rfl; have hcz7_5 : w4.cell? ⟨gb103, 5, none⟩ = some (.string a0_5) := (bC_ BK103.out 5).trans rfl; have hfz7_0 := bZ_ BK103.out 0; have hfz7_1 := bZ_ BK103.out 1; have hfz7_2 := bZ_ BK103.out 2; have hfz7_3 := bZ_ BK103.out 3; have hfz7_4 := bZ_ BK103.out 4; have hfz7_5 := bZ_ BK103.out 5))
   repeat (go_quiet (first | (go_at_call 40; (with_reducible refine (isa_Target.calls a1 true _ A5.out).mono ?_); rintro e w' ⟨rfl, ⟨nd, rfl⟩⟩; (try first | exact ⟨rfl, _, World.drewN_drewN _ _ _⟩ | exact ⟨rfl, _, Eq.trans (World.drewN_drewN _ _ _) (congrArg (World.drewN _) (Nat.add_assoc _ _ _))⟩); have hcz7_0 : w4.cell? ⟨gb103, 0, none⟩ = some (.int .i64 a0_0) := (bC_ BK103.out 0).trans rfl; have hcz7_1 : w4.cell? ⟨gb103, 1, none⟩ = some (.int .i64 a0_1) := (bC_ BK103.out 1).trans rfl; have hcz7_2 : w4.cell? ⟨gb103, 2, none⟩ = some (.int .i64 a0_2) := (bC_ BK103.out 2).trans rfl; have hcz7_3 : w4.cell? ⟨gb103, 3, none⟩ = some (.int .i64 a0_3) := (bC_ BK103.out 3).trans rfl; have hcz7_4 : w4.cell? ⟨gb103, 4, none⟩ = some (.int .i64 a0_4) := (bC_ BK103.out 4).trans rfl; have hcz7_5 : w4.cell? ⟨gb103, 5, none⟩ = some (.string a0_5) := (bC_ BK103.out 5).trans rfl; have hfz7_0 := bZ_ BK103.out 0; have hfz7_1 := bZ_ BK103.out 1; have hfz7_2 := bZ_ BK103.out 2; have hfz7_3 := bZ_ BK103.out 3; have hfz7_4 := bZ_ BK103.out 4; have hfz7_5 := bZ_ BK103.out 5)); try go_wp2_with (first | (go_at_call 40; (with_reducible refine (isa_Target.calls a1 true _ A5.out).mono ?_); rintro e w' ⟨rfl, ⟨nd, rfl⟩⟩; (try first | exact ⟨rfl, _, World.drewN_drewN _ _ _⟩ | exact ⟨rfl, _, Eq.trans (World.drewN_drewN _ _ _) (congrArg (World.drewN _) (Nat.add_assoc _ _ _))⟩); have hcz7_0 : w4.cell? ⟨gb103, 0, none⟩ = some (.int .i64 a0_0) := (bC_ BK103.out 0).trans rfl; have hcz7_1 : w4.cell? ⟨gb103, 1, none⟩ = some (.int .i64 a0_1) := (bC_ BK103.out 1).trans rfl; have hcz7_2 : w4.cell? ⟨gb103, 2, none⟩ = some (.int .i64 a0_2) := (bC_ BK103.out 2).trans rfl; have hcz7_3 : w4.cell? ⟨gb103, 3, none⟩ = some (.int .i64 a0_3) := (bC_ BK103.out 3).trans rfl; have hcz7_4 : w4.cell? ⟨gb103, 4, none⟩ = some (.int .i64 a0_4) := (bC_ BK103.out 4).trans rfl; have hcz7_5 : w4.cell? ⟨gb103, 5, none⟩ = some (.string a0_5) := (bC_ BK103.out 5).trans rfl; have hfz7_0 := bZ_ BK103.out 0; have hfz7_1 := bZ_ BK103.out 1; have hfz7_2 := bZ_ BK103.out 2; have hfz7_3 := bZ_ BK103.out 3; have hfz7_4 := bZ_ BK103.out 4; have hfz7_5 := bZ_ BK103.out 5)))
   go_meet
   case rel => exact ⟨_, ((a0_5.toList != ([] : List UInt8))), (by first | rfl | (simp; done) | (simp [*]; done) | (simp [wrap64]; done) | (congr 1; rw [Bool.eq_iff_iff]; simp; done)), H', ⟨by first | omega | exact Nat.le_refl _⟩, ⟨by (with_reducible repeat (first | refine kN_ ?_ _ | refine kD_ ?_ | refine kA_ ?_ _)); exact BK103.out⟩, ⟨by repeat (first | (with_reducible first | exact HB.out | apply bA_ | apply bN_ | apply b1_ | refine bS_ ?_ GE103.out) | exact HB.out)⟩⟩
  replace c6 := Bool.eq_false_iff.mpr c6
  subst c6
  have H1 : (isa_imm.j0 k a1 false a0_0 a0_1 a0_2 a0_3 a0_4 a0_5) = some r := by rw [if_neg (show ¬ (false = true) by decide)] at H; exact H
  clear H
  have H := H1
  clear H1
  have H' := As_.mk H
  clear H
  go_wp2_with (first | (go_at_call 40; (with_reducible refine (isa_Target.calls a1 false _ A5.out).mono ?_); rintro e w' ⟨rfl, ⟨nd, rfl⟩⟩; (try first | exact ⟨rfl, _, World.drewN_drewN _ _ _⟩ | exact ⟨rfl, _, Eq.trans (World.drewN_drewN _ _ _) (congrArg (World.drewN _) (Nat.add_assoc _ _ _))⟩)))
  repeat (go_quiet (first | (go_at_call 40; (with_reducible refine (isa_Target.calls a1 false _ A5.out).mono ?_); rintro e w' ⟨rfl, ⟨nd, rfl⟩⟩; (try first | exact ⟨rfl, _, World.drewN_drewN _ _ _⟩ | exact ⟨rfl, _, Eq.trans (World.drewN_drewN _ _ _) (congrArg (World.drewN _) (Nat.add_assoc _ _ _))⟩))); try go_wp2_with (first | (go_at_call 40; (with_reducible refine (isa_Target.calls a1 false _ A5.out).mono ?_); rintro e w' ⟨rfl, ⟨nd, rfl⟩⟩; (try first | exact ⟨rfl, _, World.drewN_drewN _ _ _⟩ | exact ⟨rfl, _, Eq.trans (World.drewN_drewN _ _ _) (congrArg (World.drewN _) (Nat.add_assoc _ _ _))⟩))))
  go_meet
  case rel => exact ⟨_, (false), (by first | rfl | (simp; done) | (simp [*]; done) | (simp [wrap64]; done) | (congr 1; rw [Bool.eq_iff_iff]; simp; done)), H', ⟨by first | omega | exact Nat.le_refl _⟩, ⟨by (with_reducible repeat (first | refine kN_ ?_ _ | refine kD_ ?_ | refine kA_ ?_ _)); exact BK103.out⟩, ⟨by repeat (first | (with_reducible first | exact HB.out | apply bA_ | apply bN_ | apply b1_ | refine bS_ ?_ GE103.out) | exact HB.out)⟩⟩
 case rest =>
  clear HC3
  obtain ⟨kq, x5_2, rfl, HA, HJ2, BK103, HB⟩ := hcut
  cases kq with
  | zero => exact absurd HA.out (by simp [isa_imm.j0])
  | succ kj2 =>
   have H := HA.out
   clear HA
   simp only [isa_imm.j0] at H
   by_cases c8 : x5_2 = true
   ·subst c8
    have H1 : (if a0_4 = 0 then ((isa_Name2.f kj2 a0_5).bind fun t105 => (some t105)) else (some false)) = some r := by rw [if_pos rfl] at H; exact H
    clear H
    have H := H1
    clear H1
    by_cases c9 : a0_4 = 0
    ·rw [if_pos c9] at H
     have c9b0 : (a0_4 == 0) = true := beq_iff_eq.mpr c9
     have c9b1 : (a0_4 != 0) = false := bne_eq_false_iff_eq.mpr c9
     clear c9
     replace H := Option.bind_eq_some_iff.mp H
     obtain ⟨t105, A100, H⟩ := H
     replace H : (some t105) = some r := H
     have A10 := As_.mk A100
     clear A100
     obtain rfl := Option.some.inj H
     have hcz11_0 : wc.cell? ⟨gb103, 0, none⟩ = some (.int .i64 a0_0) := (bC_ BK103.out 0).trans rfl
     have hcz11_1 : wc.cell? ⟨gb103, 1, none⟩ = some (.int .i64 a0_1) := (bC_ BK103.out 1).trans rfl
     have hcz11_2 : wc.cell? ⟨gb103, 2, none⟩ = some (.int .i64 a0_2) := (bC_ BK103.out 2).trans rfl
     have hcz11_3 : wc.cell? ⟨gb103, 3, none⟩ = some (.int .i64 a0_3) := (bC_ BK103.out 3).trans rfl
     have hcz11_4 : wc.cell? ⟨gb103, 4, none⟩ = some (.int .i64 a0_4) := (bC_ BK103.out 4).trans rfl
     have hcz11_5 : wc.cell? ⟨gb103, 5, none⟩ = some (.string a0_5) := (bC_ BK103.out 5).trans rfl
     have hfz11_0 := bZ_ BK103.out 0
     have hfz11_1 := bZ_ BK103.out 1
     have hfz11_2 := bZ_ BK103.out 2
     have hfz11_3 := bZ_ BK103.out 3
     have hfz11_4 := bZ_ BK103.out 4
     have hfz11_5 := bZ_ BK103.out 5
     go_wp2_with (first | (go_at_call 55; (with_reducible refine (isa_Name2.calls kj2 a0_5 t105 _ A10.out).mono ?_); rintro e w' ⟨rfl, ⟨nd, rfl⟩⟩; (try first | exact ⟨rfl, _, World.drewN_drewN _ _ _⟩ | exact ⟨rfl, _, Eq.trans (World.drewN_drewN _ _ _) (congrArg (World.drewN _) (Nat.add_assoc _ _ _))⟩)))
     repeat (go_quiet (first | (go_at_call 55; (with_reducible refine (isa_Name2.calls kj2 a0_5 t105 _ A10.out).mono ?_); rintro e w' ⟨rfl, ⟨nd, rfl⟩⟩; (try first | exact ⟨rfl, _, World.drewN_drewN _ _ _⟩ | exact ⟨rfl, _, Eq.trans (World.drewN_drewN _ _ _) (congrArg (World.drewN _) (Nat.add_assoc _ _ _))⟩))); try go_wp2_with (first | (go_at_call 55; (with_reducible refine (isa_Name2.calls kj2 a0_5 t105 _ A10.out).mono ?_); rintro e w' ⟨rfl, ⟨nd, rfl⟩⟩; (try first | exact ⟨rfl, _, World.drewN_drewN _ _ _⟩ | exact ⟨rfl, _, Eq.trans (World.drewN_drewN _ _ _) (congrArg (World.drewN _) (Nat.add_assoc _ _ _))⟩))))
     go_ret
     exact ⟨by first | rfl | (simp [eN_, eS_] <;> rfl) | (simp [*, eN_, eS_] <;> rfl), by repeat (first | (with_reducible first | exact HB.out | apply bA_ | apply bN_ | apply b1_ | refine bS_ ?_ GE103.out) | exact HB.out)⟩
    rw [if_neg c9] at H
    have c9b0 : (a0_4 == 0) = false := beq_eq_false_iff_ne.mpr c9
    have c9b1 : (a0_4 != 0) = true := bne_iff_ne.mpr c9
    obtain rfl := Option.some.inj H
    have hcz12_0 : wc.cell? ⟨gb103, 0, none⟩ = some (.int .i64 a0_0) := (bC_ BK103.out 0).trans rfl
    have hcz12_1 : wc.cell? ⟨gb103, 1, none⟩ = some (.int .i64 a0_1) := (bC_ BK103.out 1).trans rfl
    have hcz12_2 : wc.cell? ⟨gb103, 2, none⟩ = some (.int .i64 a0_2) := (bC_ BK103.out 2).trans rfl
    have hcz12_3 : wc.cell? ⟨gb103, 3, none⟩ = some (.int .i64 a0_3) := (bC_ BK103.out 3).trans rfl
    have hcz12_4 : wc.cell? ⟨gb103, 4, none⟩ = some (.int .i64 a0_4) := (bC_ BK103.out 4).trans rfl
    have hcz12_5 : wc.cell? ⟨gb103, 5, none⟩ = some (.string a0_5) := (bC_ BK103.out 5).trans rfl
    have hfz12_0 := bZ_ BK103.out 0
    have hfz12_1 := bZ_ BK103.out 1
    have hfz12_2 := bZ_ BK103.out 2
    have hfz12_3 := bZ_ BK103.out 3
    have hfz12_4 := bZ_ BK103.out 4
    have hfz12_5 := bZ_ BK103.out 5
    go_wp2
    repeat (go_quiet (fail); try go_wp2)
    go_ret
    exact ⟨by first | rfl | (simp [eN_, eS_] <;> rfl) | (simp [*, eN_, eS_] <;> rfl), by repeat (first | (with_reducible first | exact HB.out | apply bA_ | apply bN_ | apply b1_ | refine bS_ ?_ GE103.out) | exact HB.out)⟩
   replace c8 := Bool.eq_false_iff.mpr c8
   subst c8
   have H1 : ((isa_Target.f a1).bind fun t106 => (if t106 = true then (if a0_4 ≥ 0 then (some (decide (a0_4 < 1024))) else (some false)) else (if a1 = 4 then (if a0_5.toList = ([] : List UInt8) then (isa_imm.j1 kj2 a1 false a0_0 a0_1 a0_2 a0_3 a0_4 a0_5) else ((isa_Name2.f kj2 a0_5).bind fun t107 => (isa_imm.j1 kj2 a1 (!t107) a0_0 a0_1 a0_2 a0_3 a0_4 a0_5))) else (isa_imm.j1 kj2 a1 false a0_0 a0_1 a0_2 a0_3 a0_4 a0_5)))) = some r := by rw [if_neg (show ¬ (false = true) by decide)] at H; exact H
   clear H
   have H := H1
   clear H1
   replace H := Option.bind_eq_some_iff.mp H
   obtain ⟨t106, A130, H⟩ := H
   replace H : (if t106 = true then (if a0_4 ≥ 0 then (some (decide (a0_4 < 1024))) else (some false)) else (if a1 = 4 then (if a0_5.toList = ([] : List UInt8) then (isa_imm.j1 kj2 a1 false a0_0 a0_1 a0_2 a0_3 a0_4 a0_5) else ((isa_Name2.f kj2 a0_5).bind fun t107 => (isa_imm.j1 kj2 a1 (!t107) a0_0 a0_1 a0_2 a0_3 a0_4 a0_5))) else (isa_imm.j1 kj2 a1 false a0_0 a0_1 a0_2 a0_3 a0_4 a0_5))) = some r := H
   have A13 := As_.mk A130
   clear A130
   by_cases c14 : t106 = true
   ·subst c14
    have H1 : (if a0_4 ≥ 0 then (some (decide (a0_4 < 1024))) else (some false)) = some r := by rw [if_pos rfl] at H; exact H
    clear H
    have H := H1
    clear H1
    by_cases c15 : a0_4 ≥ 0
    ·rw [if_pos c15] at H
     have c15b0 : decide (0 ≤ a0_4) = true := decide_eq_true c15
     clear c15
     obtain rfl := Option.some.inj H
     go_wp2_with (first | (go_at_call 40; (with_reducible refine (isa_Target.calls a1 true _ A13.out).mono ?_); rintro e w' ⟨rfl, ⟨nd, rfl⟩⟩; (try first | exact ⟨rfl, _, World.drewN_drewN _ _ _⟩ | exact ⟨rfl, _, Eq.trans (World.drewN_drewN _ _ _) (congrArg (World.drewN _) (Nat.add_assoc _ _ _))⟩); have hcz16_0 : wc.cell? ⟨gb103, 0, none⟩ = some (.int .i64 a0_0) := (bC_ BK103.out 0).trans rfl; have hcz16_1 : wc.cell? ⟨gb103, 1, none⟩ = some (.int .i64 a0_1) := (bC_ BK103.out 1).trans rfl; have hcz16_2 : wc.cell? ⟨gb103, 2, none⟩ = some (.int .i64 a0_2) := (bC_ BK103.out 2).trans rfl; have hcz16_3 : wc.cell? ⟨gb103, 3, none⟩ = some (.int .i64 a0_3) := (bC_ BK103.out 3).trans rfl; have hcz16_4 : wc.cell? ⟨gb103, 4, none⟩ = some (.int .i64 a0_4) := (bC_ BK103.out 4).trans rfl; have hcz16_5 : wc.cell? ⟨gb103, 5, none⟩ = some (.string a0_5) := (bC_ BK103.out 5).trans rfl; have hfz16_0 := bZ_ BK103.out 0; have hfz16_1 := bZ_ BK103.out 1; have hfz16_2 := bZ_ BK103.out 2; have hfz16_3 := bZ_ BK103.out 3; have hfz16_4 := bZ_ BK103.out 4; have hfz16_5 := bZ_ BK103.out 5))
     repeat (go_quiet (first | (go_at_call 40; (with_reducible refine (isa_Target.calls a1 true _ A13.out).mono ?_); rintro e w' ⟨rfl, ⟨nd, rfl⟩⟩; (try first | exact ⟨rfl, _, World.drewN_drewN _ _ _⟩ | exact ⟨rfl, _, Eq.trans (World.drewN_drewN _ _ _) (congrArg (World.drewN _) (Nat.add_assoc _ _ _))⟩); have hcz16_0 : wc.cell? ⟨gb103, 0, none⟩ = some (.int .i64 a0_0) := (bC_ BK103.out 0).trans rfl; have hcz16_1 : wc.cell? ⟨gb103, 1, none⟩ = some (.int .i64 a0_1) := (bC_ BK103.out 1).trans rfl; have hcz16_2 : wc.cell? ⟨gb103, 2, none⟩ = some (.int .i64 a0_2) := (bC_ BK103.out 2).trans rfl; have hcz16_3 : wc.cell? ⟨gb103, 3, none⟩ = some (.int .i64 a0_3) := (bC_ BK103.out 3).trans rfl; have hcz16_4 : wc.cell? ⟨gb103, 4, none⟩ = some (.int .i64 a0_4) := (bC_ BK103.out 4).trans rfl; have hcz16_5 : wc.cell? ⟨gb103, 5, none⟩ = some (.string a0_5) := (bC_ BK103.out 5).trans rfl; have hfz16_0 := bZ_ BK103.out 0; have hfz16_1 := bZ_ BK103.out 1; have hfz16_2 := bZ_ BK103.out 2; have hfz16_3 := bZ_ BK103.out 3; have hfz16_4 := bZ_ BK103.out 4; have hfz16_5 := bZ_ BK103.out 5)); try go_wp2_with (first | (go_at_call 40; (with_reducible refine (isa_Target.calls a1 true _ A13.out).mono ?_); rintro e w' ⟨rfl, ⟨nd, rfl⟩⟩; (try first | exact ⟨rfl, _, World.drewN_drewN _ _ _⟩ | exact ⟨rfl, _, Eq.trans (World.drewN_drewN _ _ _) (congrArg (World.drewN _) (Nat.add_assoc _ _ _))⟩); have hcz16_0 : wc.cell? ⟨gb103, 0, none⟩ = some (.int .i64 a0_0) := (bC_ BK103.out 0).trans rfl; have hcz16_1 : wc.cell? ⟨gb103, 1, none⟩ = some (.int .i64 a0_1) := (bC_ BK103.out 1).trans rfl; have hcz16_2 : wc.cell? ⟨gb103, 2, none⟩ = some (.int .i64 a0_2) := (bC_ BK103.out 2).trans rfl; have hcz16_3 : wc.cell? ⟨gb103, 3, none⟩ = some (.int .i64 a0_3) := (bC_ BK103.out 3).trans rfl; have hcz16_4 : wc.cell? ⟨gb103, 4, none⟩ = some (.int .i64 a0_4) := (bC_ BK103.out 4).trans rfl; have hcz16_5 : wc.cell? ⟨gb103, 5, none⟩ = some (.string a0_5) := (bC_ BK103.out 5).trans rfl; have hfz16_0 := bZ_ BK103.out 0; have hfz16_1 := bZ_ BK103.out 1; have hfz16_2 := bZ_ BK103.out 2; have hfz16_3 := bZ_ BK103.out 3; have hfz16_4 := bZ_ BK103.out 4; have hfz16_5 := bZ_ BK103.out 5)))
     go_ret
     exact ⟨by first | rfl | (simp [eN_, eS_] <;> rfl) | (simp [*, eN_, eS_] <;> rfl), by repeat (first | (with_reducible first | exact HB.out | apply bA_ | apply bN_ | apply b1_ | refine bS_ ?_ GE103.out) | exact HB.out)⟩
    rw [if_neg c15] at H
    have c15b0 : decide (0 ≤ a0_4) = false := decide_eq_false c15
    clear c15
    obtain rfl := Option.some.inj H
    go_wp2_with (first | (go_at_call 40; (with_reducible refine (isa_Target.calls a1 true _ A13.out).mono ?_); rintro e w' ⟨rfl, ⟨nd, rfl⟩⟩; (try first | exact ⟨rfl, _, World.drewN_drewN _ _ _⟩ | exact ⟨rfl, _, Eq.trans (World.drewN_drewN _ _ _) (congrArg (World.drewN _) (Nat.add_assoc _ _ _))⟩); have hcz17_0 : wc.cell? ⟨gb103, 0, none⟩ = some (.int .i64 a0_0) := (bC_ BK103.out 0).trans rfl; have hcz17_1 : wc.cell? ⟨gb103, 1, none⟩ = some (.int .i64 a0_1) := (bC_ BK103.out 1).trans rfl; have hcz17_2 : wc.cell? ⟨gb103, 2, none⟩ = some (.int .i64 a0_2) := (bC_ BK103.out 2).trans rfl; have hcz17_3 : wc.cell? ⟨gb103, 3, none⟩ = some (.int .i64 a0_3) := (bC_ BK103.out 3).trans rfl; have hcz17_4 : wc.cell? ⟨gb103, 4, none⟩ = some (.int .i64 a0_4) := (bC_ BK103.out 4).trans rfl; have hcz17_5 : wc.cell? ⟨gb103, 5, none⟩ = some (.string a0_5) := (bC_ BK103.out 5).trans rfl; have hfz17_0 := bZ_ BK103.out 0; have hfz17_1 := bZ_ BK103.out 1; have hfz17_2 := bZ_ BK103.out 2; have hfz17_3 := bZ_ BK103.out 3; have hfz17_4 := bZ_ BK103.out 4; have hfz17_5 := bZ_ BK103.out 5))
    repeat (go_quiet (first | (go_at_call 40; (with_reducible refine (isa_Target.calls a1 true _ A13.out).mono ?_); rintro e w' ⟨rfl, ⟨nd, rfl⟩⟩; (try first | exact ⟨rfl, _, World.drewN_drewN _ _ _⟩ | exact ⟨rfl, _, Eq.trans (World.drewN_drewN _ _ _) (congrArg (World.drewN _) (Nat.add_assoc _ _ _))⟩); have hcz17_0 : wc.cell? ⟨gb103, 0, none⟩ = some (.int .i64 a0_0) := (bC_ BK103.out 0).trans rfl; have hcz17_1 : wc.cell? ⟨gb103, 1, none⟩ = some (.int .i64 a0_1) := (bC_ BK103.out 1).trans rfl; have hcz17_2 : wc.cell? ⟨gb103, 2, none⟩ = some (.int .i64 a0_2) := (bC_ BK103.out 2).trans rfl; have hcz17_3 : wc.cell? ⟨gb103, 3, none⟩ = some (.int .i64 a0_3) := (bC_ BK103.out 3).trans rfl; have hcz17_4 : wc.cell? ⟨gb103, 4, none⟩ = some (.int .i64 a0_4) := (bC_ BK103.out 4).trans rfl; have hcz17_5 : wc.cell? ⟨gb103, 5, none⟩ = some (.string a0_5) := (bC_ BK103.out 5).trans rfl; have hfz17_0 := bZ_ BK103.out 0; have hfz17_1 := bZ_ BK103.out 1; have hfz17_2 := bZ_ BK103.out 2; have hfz17_3 := bZ_ BK103.out 3; have hfz17_4 := bZ_ BK103.out 4; have hfz17_5 := bZ_ BK103.out 5)); try go_wp2_with (first | (go_at_call 40; (with_reducible refine (isa_Target.calls a1 true _ A13.out).mono ?_); rintro e w' ⟨rfl, ⟨nd, rfl⟩⟩; (try first | exact ⟨rfl, _, World.drewN_drewN _ _ _⟩ | exact ⟨rfl, _, Eq.trans (World.drewN_drewN _ _ _) (congrArg (World.drewN _) (Nat.add_assoc _ _ _))⟩); have hcz17_0 : wc.cell? ⟨gb103, 0, none⟩ = some (.int .i64 a0_0) := (bC_ BK103.out 0).trans rfl; have hcz17_1 : wc.cell? ⟨gb103, 1, none⟩ = some (.int .i64 a0_1) := (bC_ BK103.out 1).trans rfl; have hcz17_2 : wc.cell? ⟨gb103, 2, none⟩ = some (.int .i64 a0_2) := (bC_ BK103.out 2).trans rfl; have hcz17_3 : wc.cell? ⟨gb103, 3, none⟩ = some (.int .i64 a0_3) := (bC_ BK103.out 3).trans rfl; have hcz17_4 : wc.cell? ⟨gb103, 4, none⟩ = some (.int .i64 a0_4) := (bC_ BK103.out 4).trans rfl; have hcz17_5 : wc.cell? ⟨gb103, 5, none⟩ = some (.string a0_5) := (bC_ BK103.out 5).trans rfl; have hfz17_0 := bZ_ BK103.out 0; have hfz17_1 := bZ_ BK103.out 1; have hfz17_2 := bZ_ BK103.out 2; have hfz17_3 := bZ_ BK103.out 3; have hfz17_4 := bZ_ BK103.out 4; have hfz17_5 := bZ_ BK103.out 5)))
    go_ret
    exact ⟨by first | rfl | (simp [eN_, eS_] <;> rfl) | (simp [*, eN_, eS_] <;> rfl), by repeat (first | (with_reducible first | exact HB.out | apply bA_ | apply bN_ | apply b1_ | refine bS_ ?_ GE103.out) | exact HB.out)⟩
   replace c14 := Bool.eq_false_iff.mpr c14
   subst c14
   have H1 : (if a1 = 4 then (if a0_5.toList = ([] : List UInt8) then (isa_imm.j1 kj2 a1 false a0_0 a0_1 a0_2 a0_3 a0_4 a0_5) else ((isa_Name2.f kj2 a0_5).bind fun t107 => (isa_imm.j1 kj2 a1 (!t107) a0_0 a0_1 a0_2 a0_3 a0_4 a0_5))) else (isa_imm.j1 kj2 a1 false a0_0 a0_1 a0_2 a0_3 a0_4 a0_5)) = some r := by rw [if_neg (show ¬ (false = true) by decide)] at H; exact H
   clear H
   have H := H1
   clear H1
   have HC18 := As_.mk H
   clear H
   go_upto_region 5 with (first | (go_at_call 40; (with_reducible refine (isa_Target.calls a1 false _ A13.out).mono ?_); rintro e w' ⟨rfl, ⟨nd, rfl⟩⟩; (try first | exact ⟨rfl, _, World.drewN_drewN _ _ _⟩ | exact ⟨rfl, _, Eq.trans (World.drewN_drewN _ _ _) (congrArg (World.drewN _) (Nat.add_assoc _ _ _))⟩)))
   repeat (go_quiet (first | (go_at_call 40; (with_reducible refine (isa_Target.calls a1 false _ A13.out).mono ?_); rintro e w' ⟨rfl, ⟨nd, rfl⟩⟩; (try first | exact ⟨rfl, _, World.drewN_drewN _ _ _⟩ | exact ⟨rfl, _, Eq.trans (World.drewN_drewN _ _ _) (congrArg (World.drewN _) (Nat.add_assoc _ _ _))⟩))); go_upto_region 5 with (first | (go_at_call 40; (with_reducible refine (isa_Target.calls a1 false _ A13.out).mono ?_); rintro e w' ⟨rfl, ⟨nd, rfl⟩⟩; (try first | exact ⟨rfl, _, World.drewN_drewN _ _ _⟩ | exact ⟨rfl, _, Eq.trans (World.drewN_drewN _ _ _) (congrArg (World.drewN _) (Nat.add_assoc _ _ _))⟩))))
   (try simp only [Act.put, List.setIfInBounds_toArray, List.set_cons_zero, List.set_cons_succ])
   go_cut [32] (fun v32 wc => ∃ (kq : Nat) (x32_17 : Bool), v32 = .bool x32_17 ∧ As_ (isa_imm.j1 kq a1 x32_17 a0_0 a0_1 a0_2 a0_3 a0_4 a0_5 = some r) ∧ As_ (kq ≤ kj2) ∧ As_ (wc.heap[gb103]? = some (.cells #[.int .i64 a0_0, .int .i64 a0_1, .int .i64 a0_2, .int .i64 a0_3, .int .i64 a0_4, .string a0_5] 35 (0, 0))) ∧ As_ (Below w.heap.size w wc))
   case first =>
    have H := HC18.out
    clear HC18
    by_cases c19 : a1 = 4
    ·rw [if_pos c19] at H
     have c19b0 : (a1 == 4) = true := beq_iff_eq.mpr c19
     have c19b1 : (a1 != 4) = false := bne_eq_false_iff_eq.mpr c19
     clear c19
     (first | rw [c19b0] | (simp only [i64_w, i32_w]; rw [c19b0]) | skip)
     by_cases c20 : a0_5.toList = ([] : List UInt8)
     ·rw [if_pos c20] at H
      have c20b0 : (a0_5.toList == ([] : List UInt8)) = true := beq_iff_eq.mpr c20
      have c20b1 : (a0_5.toList != ([] : List UInt8)) = false := bne_eq_false_iff_eq.mpr c20
      clear c20
      have H' := As_.mk H
      clear H
      have hcz21_0 : wc.cell? ⟨gb103, 0, none⟩ = some (.int .i64 a0_0) := (bC_ BK103.out 0).trans rfl
      have hcz21_1 : wc.cell? ⟨gb103, 1, none⟩ = some (.int .i64 a0_1) := (bC_ BK103.out 1).trans rfl
      have hcz21_2 : wc.cell? ⟨gb103, 2, none⟩ = some (.int .i64 a0_2) := (bC_ BK103.out 2).trans rfl
      have hcz21_3 : wc.cell? ⟨gb103, 3, none⟩ = some (.int .i64 a0_3) := (bC_ BK103.out 3).trans rfl
      have hcz21_4 : wc.cell? ⟨gb103, 4, none⟩ = some (.int .i64 a0_4) := (bC_ BK103.out 4).trans rfl
      have hcz21_5 : wc.cell? ⟨gb103, 5, none⟩ = some (.string a0_5) := (bC_ BK103.out 5).trans rfl
      have hfz21_0 := bZ_ BK103.out 0
      have hfz21_1 := bZ_ BK103.out 1
      have hfz21_2 := bZ_ BK103.out 2
      have hfz21_3 := bZ_ BK103.out 3
      have hfz21_4 := bZ_ BK103.out 4
      have hfz21_5 := bZ_ BK103.out 5
      go_wp2
      repeat (go_quiet (fail); try go_wp2)
      go_meet
      case rel => exact ⟨_, (false), (by first | rfl | (simp; done) | (simp [*]; done) | (simp [wrap64]; done) | (congr 1; rw [Bool.eq_iff_iff]; simp; done)), H', ⟨by have := HJ2.out; first | omega | exact Nat.le_refl _⟩, ⟨by (with_reducible repeat (first | refine kN_ ?_ _ | refine kD_ ?_ | refine kA_ ?_ _)); exact BK103.out⟩, ⟨by repeat (first | (with_reducible first | exact HB.out | apply bA_ | apply bN_ | apply b1_ | refine bS_ ?_ GE103.out) | exact HB.out)⟩⟩
     rw [if_neg c20] at H
     have c20b0 : (a0_5.toList == ([] : List UInt8)) = false := beq_eq_false_iff_ne.mpr c20
     have c20b1 : (a0_5.toList != ([] : List UInt8)) = true := bne_iff_ne.mpr c20
     replace H := Option.bind_eq_some_iff.mp H
     obtain ⟨t107, A220, H⟩ := H
     replace H : (isa_imm.j1 kj2 a1 (!t107) a0_0 a0_1 a0_2 a0_3 a0_4 a0_5) = some r := H
     have A22 := As_.mk A220
     clear A220
     have H' := As_.mk H
     clear H
     have hcz23_0 : wc.cell? ⟨gb103, 0, none⟩ = some (.int .i64 a0_0) := (bC_ BK103.out 0).trans rfl
     have hcz23_1 : wc.cell? ⟨gb103, 1, none⟩ = some (.int .i64 a0_1) := (bC_ BK103.out 1).trans rfl
     have hcz23_2 : wc.cell? ⟨gb103, 2, none⟩ = some (.int .i64 a0_2) := (bC_ BK103.out 2).trans rfl
     have hcz23_3 : wc.cell? ⟨gb103, 3, none⟩ = some (.int .i64 a0_3) := (bC_ BK103.out 3).trans rfl
     have hcz23_4 : wc.cell? ⟨gb103, 4, none⟩ = some (.int .i64 a0_4) := (bC_ BK103.out 4).trans rfl
     have hcz23_5 : wc.cell? ⟨gb103, 5, none⟩ = some (.string a0_5) := (bC_ BK103.out 5).trans rfl
     have hfz23_0 := bZ_ BK103.out 0
     have hfz23_1 := bZ_ BK103.out 1
     have hfz23_2 := bZ_ BK103.out 2
     have hfz23_3 := bZ_ BK103.out 3
     have hfz23_4 := bZ_ BK103.out 4
     have hfz23_5 := bZ_ BK103.out 5
     go_wp2_with (first | (go_at_call 55; (with_reducible refine (isa_Name2.calls kj2 a0_5 t107 _ A22.out).mono ?_); rintro e w' ⟨rfl, ⟨nd, rfl⟩⟩; (try first | exact ⟨rfl, _, World.drewN_drewN _ _ _⟩ | exact ⟨rfl, _, Eq.trans (World.drewN_drewN _ _ _) (congrArg (World.drewN _) (Nat.add_assoc _ _ _))⟩)))
     repeat (go_quiet (first | (go_at_call 55; (with_reducible refine (isa_Name2.calls kj2 a0_5 t107 _ A22.out).mono ?_); rintro e w' ⟨rfl, ⟨nd, rfl⟩⟩; (try first | exact ⟨rfl, _, World.drewN_drewN _ _ _⟩ | exact ⟨rfl, _, Eq.trans (World.drewN_drewN _ _ _) (congrArg (World.drewN _) (Nat.add_assoc _ _ _))⟩))); try go_wp2_with (first | (go_at_call 55; (with_reducible refine (isa_Name2.calls kj2 a0_5 t107 _ A22.out).mono ?_); rintro e w' ⟨rfl, ⟨nd, rfl⟩⟩; (try first | exact ⟨rfl, _, World.drewN_drewN _ _ _⟩ | exact ⟨rfl, _, Eq.trans (World.drewN_drewN _ _ _) (congrArg (World.drewN _) (Nat.add_assoc _ _ _))⟩))))
     go_meet
     case rel => exact ⟨_, (!t107), (by first | rfl | (simp; done) | (simp [*]; done) | (simp [wrap64]; done) | (congr 1; rw [Bool.eq_iff_iff]; simp; done)), H', ⟨by have := HJ2.out; first | omega | exact Nat.le_refl _⟩, ⟨by (with_reducible repeat (first | refine kN_ ?_ _ | refine kD_ ?_ | refine kA_ ?_ _)); exact BK103.out⟩, ⟨by repeat (first | (with_reducible first | exact HB.out | apply bA_ | apply bN_ | apply b1_ | refine bS_ ?_ GE103.out) | exact HB.out)⟩⟩
    rw [if_neg c19] at H
    have c19b0 : (a1 == 4) = false := beq_eq_false_iff_ne.mpr c19
    have c19b1 : (a1 != 4) = true := bne_iff_ne.mpr c19
    (first | rw [c19b0] | (simp only [i64_w, i32_w]; rw [c19b0]) | skip)
    have H' := As_.mk H
    clear H
    go_wp2
    repeat (go_quiet (fail); try go_wp2)
    go_meet
    case rel => exact ⟨_, (false), (by first | rfl | (simp; done) | (simp [*]; done) | (simp [wrap64]; done) | (congr 1; rw [Bool.eq_iff_iff]; simp; done)), H', ⟨by have := HJ2.out; first | omega | exact Nat.le_refl _⟩, ⟨by (with_reducible repeat (first | refine kN_ ?_ _ | refine kD_ ?_ | refine kA_ ?_ _)); exact BK103.out⟩, ⟨by repeat (first | (with_reducible first | exact HB.out | apply bA_ | apply bN_ | apply b1_ | refine bS_ ?_ GE103.out) | exact HB.out)⟩⟩
   case rest =>
    clear HC18
    obtain ⟨kq, x32_17, rfl, HA, HJ17, BK103, HB⟩ := hcut
    cases kq with
    | zero => exact absurd HA.out (by simp [isa_imm.j1])
    | succ kj17 =>
     have H := HA.out
     clear HA
     simp only [isa_imm.j1] at H
     have HC24 := As_.mk H
     clear H
     go_upto_if 32 with (fail)
     repeat (go_quiet (fail); go_upto_if 32 with (fail))
     go_cut [32] (fun v32 wc => ∃ (kq : Nat) (x32_23 : Bool), v32 = .bool x32_23 ∧ As_ (isa_imm.j2 kq a1 x32_23 a0_0 a0_1 a0_2 a0_3 a0_4 a0_5 = some r) ∧ As_ (kq ≤ kj17) ∧ As_ (wc.heap[gb103]? = some (.cells #[.int .i64 a0_0, .int .i64 a0_1, .int .i64 a0_2, .int .i64 a0_3, .int .i64 a0_4, .string a0_5] 35 (0, 0))) ∧ As_ (Below w.heap.size w wc))
     case first =>
      have H := HC24.out
      clear HC24
      by_cases c25 : x32_17 = true
      ·subst c25
       have H1 : (isa_imm.j2 kj17 a1 true a0_0 a0_1 a0_2 a0_3 a0_4 a0_5) = some r := by rw [if_pos rfl] at H; exact H
       clear H
       have H := H1
       clear H1
       have H' := As_.mk H
       clear H
       go_wp2
       repeat (go_quiet (fail); try go_wp2)
       go_meet
       case rel => exact ⟨_, (true), (by first | rfl | (simp; done) | (simp [*]; done) | (simp [wrap64]; done) | (congr 1; rw [Bool.eq_iff_iff]; simp; done)), H', ⟨by have := HJ2.out; have := HJ17.out; first | omega | exact Nat.le_refl _⟩, ⟨by (with_reducible repeat (first | refine kN_ ?_ _ | refine kD_ ?_ | refine kA_ ?_ _)); exact BK103.out⟩, ⟨by repeat (first | (with_reducible first | exact HB.out | apply bA_ | apply bN_ | apply b1_ | refine bS_ ?_ GE103.out) | exact HB.out)⟩⟩
      replace c25 := Bool.eq_false_iff.mpr c25
      subst c25
      have H1 : (if a1 = 4 then (isa_imm.j2 kj17 a1 false a0_0 a0_1 a0_2 a0_3 a0_4 a0_5) else (isa_imm.j2 kj17 a1 (a0_5.toList != ([] : List UInt8)) a0_0 a0_1 a0_2 a0_3 a0_4 a0_5)) = some r := by rw [if_neg (show ¬ (false = true) by decide)] at H; exact H
      clear H
      have H := H1
      clear H1
      by_cases c26 : a1 = 4
      ·rw [if_pos c26] at H
       have c26b0 : (a1 == 4) = true := beq_iff_eq.mpr c26
       have c26b1 : (a1 != 4) = false := bne_eq_false_iff_eq.mpr c26
       clear c26
       (first | rw [c26b0] | (simp only [i64_w, i32_w]; rw [c26b0]) | skip)
       have H' := As_.mk H
       clear H
       go_wp2
       repeat (go_quiet (fail); try go_wp2)
       go_meet
       case rel => exact ⟨_, (false), (by first | rfl | (simp; done) | (simp [*]; done) | (simp [wrap64]; done) | (congr 1; rw [Bool.eq_iff_iff]; simp; done)), H', ⟨by have := HJ2.out; have := HJ17.out; first | omega | exact Nat.le_refl _⟩, ⟨by (with_reducible repeat (first | refine kN_ ?_ _ | refine kD_ ?_ | refine kA_ ?_ _)); exact BK103.out⟩, ⟨by repeat (first | (with_reducible first | exact HB.out | apply bA_ | apply bN_ | apply b1_ | refine bS_ ?_ GE103.out) | exact HB.out)⟩⟩
      rw [if_neg c26] at H
      have c26b0 : (a1 == 4) = false := beq_eq_false_iff_ne.mpr c26
      have c26b1 : (a1 != 4) = true := bne_iff_ne.mpr c26
      (first | rw [c26b0] | (simp only [i64_w, i32_w]; rw [c26b0]) | skip)
      have H' := As_.mk H
      clear H
      have hcz27_0 : wc.cell? ⟨gb103, 0, none⟩ = some (.int .i64 a0_0) := (bC_ BK103.out 0).trans rfl
      have hcz27_1 : wc.cell? ⟨gb103, 1, none⟩ = some (.int .i64 a0_1) := (bC_ BK103.out 1).trans rfl
      have hcz27_2 : wc.cell? ⟨gb103, 2, none⟩ = some (.int .i64 a0_2) := (bC_ BK103.out 2).trans rfl
      have hcz27_3 : wc.cell? ⟨gb103, 3, none⟩ = some (.int .i64 a0_3) := (bC_ BK103.out 3).trans rfl
      have hcz27_4 : wc.cell? ⟨gb103, 4, none⟩ = some (.int .i64 a0_4) := (bC_ BK103.out 4).trans rfl
      have hcz27_5 : wc.cell? ⟨gb103, 5, none⟩ = some (.string a0_5) := (bC_ BK103.out 5).trans rfl
      have hfz27_0 := bZ_ BK103.out 0
      have hfz27_1 := bZ_ BK103.out 1
      have hfz27_2 := bZ_ BK103.out 2
      have hfz27_3 := bZ_ BK103.out 3
      have hfz27_4 := bZ_ BK103.out 4
      have hfz27_5 := bZ_ BK103.out 5
      go_wp2
      repeat (go_quiet (fail); try go_wp2)
      go_meet
      case rel => exact ⟨_, ((a0_5.toList != ([] : List UInt8))), (by first | rfl | (simp; done) | (simp [*]; done) | (simp [wrap64]; done) | (congr 1; rw [Bool.eq_iff_iff]; simp; done)), H', ⟨by have := HJ2.out; have := HJ17.out; first | omega | exact Nat.le_refl _⟩, ⟨by (with_reducible repeat (first | refine kN_ ?_ _ | refine kD_ ?_ | refine kA_ ?_ _)); exact BK103.out⟩, ⟨by repeat (first | (with_reducible first | exact HB.out | apply bA_ | apply bN_ | apply b1_ | refine bS_ ?_ GE103.out) | exact HB.out)⟩⟩
     case rest =>
      clear HC24
      obtain ⟨kq, x32_23, rfl, HA, HJ23, BK103, HB⟩ := hcut
      cases kq with
      | zero => exact absurd HA.out (by simp [isa_imm.j2])
      | succ kj23 =>
       have H := HA.out
       clear HA
       simp only [isa_imm.j2] at H
       by_cases c28 : x32_23 = true
       ·subst c28
        have H1 : (some false) = some r := by rw [if_pos rfl] at H; exact H
        clear H
        have H := H1
        clear H1
        obtain rfl := Option.some.inj H
        go_wp2
        repeat (go_quiet (fail); try go_wp2)
        go_ret
        exact ⟨by first | rfl | (simp [eN_, eS_] <;> rfl) | (simp [*, eN_, eS_] <;> rfl), by repeat (first | (with_reducible first | exact HB.out | apply bA_ | apply bN_ | apply b1_ | refine bS_ ?_ GE103.out) | exact HB.out)⟩
       replace c28 := Bool.eq_false_iff.mpr c28
       subst c28
       have H1 : ((isa_Bits.f kj23 a1).bind fun t108 => (if t108 = 0 then (some (a0_4 == 0)) else ((isa_Bits.f kj23 a1).bind fun t109 => ((word_Within.f a0_4 t108).bind fun t110 => (some t110))))) = some r := by rw [if_neg (show ¬ (false = true) by decide)] at H; exact H
       clear H
       have H := H1
       clear H1
       replace H := Option.bind_eq_some_iff.mp H
       obtain ⟨t108, A290, H⟩ := H
       replace H : (if t108 = 0 then (some (a0_4 == 0)) else ((isa_Bits.f kj23 a1).bind fun t109 => ((word_Within.f a0_4 t108).bind fun t110 => (some t110)))) = some r := H
       have A29 := As_.mk A290
       clear A290
       by_cases c30 : t108 = 0
       ·rw [if_pos c30] at H
        have c30b0 : (t108 == 0) = true := beq_iff_eq.mpr c30
        have c30b1 : (t108 != 0) = false := bne_eq_false_iff_eq.mpr c30
        clear c30
        obtain rfl := Option.some.inj H
        go_wp2_with (first | (go_at_call 39; (with_reducible refine (isa_Bits.calls kj23 a1 t108 _ A29.out).mono ?_); rintro e w' ⟨rfl, ⟨nd, rfl⟩⟩; (try first | exact ⟨rfl, _, World.drewN_drewN _ _ _⟩ | exact ⟨rfl, _, Eq.trans (World.drewN_drewN _ _ _) (congrArg (World.drewN _) (Nat.add_assoc _ _ _))⟩); have hcz31_0 : wc.cell? ⟨gb103, 0, none⟩ = some (.int .i64 a0_0) := (bC_ BK103.out 0).trans rfl; have hcz31_1 : wc.cell? ⟨gb103, 1, none⟩ = some (.int .i64 a0_1) := (bC_ BK103.out 1).trans rfl; have hcz31_2 : wc.cell? ⟨gb103, 2, none⟩ = some (.int .i64 a0_2) := (bC_ BK103.out 2).trans rfl; have hcz31_3 : wc.cell? ⟨gb103, 3, none⟩ = some (.int .i64 a0_3) := (bC_ BK103.out 3).trans rfl; have hcz31_4 : wc.cell? ⟨gb103, 4, none⟩ = some (.int .i64 a0_4) := (bC_ BK103.out 4).trans rfl; have hcz31_5 : wc.cell? ⟨gb103, 5, none⟩ = some (.string a0_5) := (bC_ BK103.out 5).trans rfl; have hfz31_0 := bZ_ BK103.out 0; have hfz31_1 := bZ_ BK103.out 1; have hfz31_2 := bZ_ BK103.out 2; have hfz31_3 := bZ_ BK103.out 3; have hfz31_4 := bZ_ BK103.out 4; have hfz31_5 := bZ_ BK103.out 5))
        repeat (go_quiet (first | (go_at_call 39; (with_reducible refine (isa_Bits.calls kj23 a1 t108 _ A29.out).mono ?_); rintro e w' ⟨rfl, ⟨nd, rfl⟩⟩; (try first | exact ⟨rfl, _, World.drewN_drewN _ _ _⟩ | exact ⟨rfl, _, Eq.trans (World.drewN_drewN _ _ _) (congrArg (World.drewN _) (Nat.add_assoc _ _ _))⟩); have hcz31_0 : wc.cell? ⟨gb103, 0, none⟩ = some (.int .i64 a0_0) := (bC_ BK103.out 0).trans rfl; have hcz31_1 : wc.cell? ⟨gb103, 1, none⟩ = some (.int .i64 a0_1) := (bC_ BK103.out 1).trans rfl; have hcz31_2 : wc.cell? ⟨gb103, 2, none⟩ = some (.int .i64 a0_2) := (bC_ BK103.out 2).trans rfl; have hcz31_3 : wc.cell? ⟨gb103, 3, none⟩ = some (.int .i64 a0_3) := (bC_ BK103.out 3).trans rfl; have hcz31_4 : wc.cell? ⟨gb103, 4, none⟩ = some (.int .i64 a0_4) := (bC_ BK103.out 4).trans rfl; have hcz31_5 : wc.cell? ⟨gb103, 5, none⟩ = some (.string a0_5) := (bC_ BK103.out 5).trans rfl; have hfz31_0 := bZ_ BK103.out 0; have hfz31_1 := bZ_ BK103.out 1; have hfz31_2 := bZ_ BK103.out 2; have hfz31_3 := bZ_ BK103.out 3; have hfz31_4 := bZ_ BK103.out 4; have hfz31_5 := bZ_ BK103.out 5)); try go_wp2_with (first | (go_at_call 39; (with_reducible refine (isa_Bits.calls kj23 a1 t108 _ A29.out).mono ?_); rintro e w' ⟨rfl, ⟨nd, rfl⟩⟩; (try first | exact ⟨rfl, _, World.drewN_drewN _ _ _⟩ | exact ⟨rfl, _, Eq.trans (World.drewN_drewN _ _ _) (congrArg (World.drewN _) (Nat.add_assoc _ _ _))⟩); have hcz31_0 : wc.cell? ⟨gb103, 0, none⟩ = some (.int .i64 a0_0) := (bC_ BK103.out 0).trans rfl; have hcz31_1 : wc.cell? ⟨gb103, 1, none⟩ = some (.int .i64 a0_1) := (bC_ BK103.out 1).trans rfl; have hcz31_2 : wc.cell? ⟨gb103, 2, none⟩ = some (.int .i64 a0_2) := (bC_ BK103.out 2).trans rfl; have hcz31_3 : wc.cell? ⟨gb103, 3, none⟩ = some (.int .i64 a0_3) := (bC_ BK103.out 3).trans rfl; have hcz31_4 : wc.cell? ⟨gb103, 4, none⟩ = some (.int .i64 a0_4) := (bC_ BK103.out 4).trans rfl; have hcz31_5 : wc.cell? ⟨gb103, 5, none⟩ = some (.string a0_5) := (bC_ BK103.out 5).trans rfl; have hfz31_0 := bZ_ BK103.out 0; have hfz31_1 := bZ_ BK103.out 1; have hfz31_2 := bZ_ BK103.out 2; have hfz31_3 := bZ_ BK103.out 3; have hfz31_4 := bZ_ BK103.out 4; have hfz31_5 := bZ_ BK103.out 5)))
        go_ret
        exact ⟨by first | rfl | (simp [eN_, eS_] <;> rfl) | (simp [*, eN_, eS_] <;> rfl), by repeat (first | (with_reducible first | exact HB.out | apply bA_ | apply bN_ | apply b1_ | refine bS_ ?_ GE103.out) | exact HB.out)⟩
       rw [if_neg c30] at H
       have c30b0 : (t108 == 0) = false := beq_eq_false_iff_ne.mpr c30
       have c30b1 : (t108 != 0) = true := bne_iff_ne.mpr c30
       replace H := Option.bind_eq_some_iff.mp H
       obtain ⟨t109, A320, H⟩ := H
       replace H : ((word_Within.f a0_4 t108).bind fun t110 => (some t110)) = some r := H
       have A32 := As_.mk A320
       clear A320
       obtain rfl : t108 = t109 := Option.some.inj (A29.out.symm.trans A32.out)
       replace H := Option.bind_eq_some_iff.mp H
       obtain ⟨t110, A330, H⟩ := H
       replace H : (some t110) = some r := H
       have A33 := As_.mk A330
       clear A330
       obtain rfl := Option.some.inj H
       go_wp2_with (first | (go_at_call 39; (with_reducible refine (isa_Bits.calls kj23 a1 t108 _ A29.out).mono ?_); rintro e w' ⟨rfl, ⟨nd, rfl⟩⟩; (try first | exact ⟨rfl, _, World.drewN_drewN _ _ _⟩ | exact ⟨rfl, _, Eq.trans (World.drewN_drewN _ _ _) (congrArg (World.drewN _) (Nat.add_assoc _ _ _))⟩); have hcz34_0 : wc.cell? ⟨gb103, 0, none⟩ = some (.int .i64 a0_0) := (bC_ BK103.out 0).trans rfl; have hcz34_1 : wc.cell? ⟨gb103, 1, none⟩ = some (.int .i64 a0_1) := (bC_ BK103.out 1).trans rfl; have hcz34_2 : wc.cell? ⟨gb103, 2, none⟩ = some (.int .i64 a0_2) := (bC_ BK103.out 2).trans rfl; have hcz34_3 : wc.cell? ⟨gb103, 3, none⟩ = some (.int .i64 a0_3) := (bC_ BK103.out 3).trans rfl; have hcz34_4 : wc.cell? ⟨gb103, 4, none⟩ = some (.int .i64 a0_4) := (bC_ BK103.out 4).trans rfl; have hcz34_5 : wc.cell? ⟨gb103, 5, none⟩ = some (.string a0_5) := (bC_ BK103.out 5).trans rfl; have hfz34_0 := bZ_ BK103.out 0; have hfz34_1 := bZ_ BK103.out 1; have hfz34_2 := bZ_ BK103.out 2; have hfz34_3 := bZ_ BK103.out 3; have hfz34_4 := bZ_ BK103.out 4; have hfz34_5 := bZ_ BK103.out 5) | (go_at_call 39; (with_reducible refine (isa_Bits.calls kj23 a1 t108 _ A32.out).mono ?_); rintro e w' ⟨rfl, ⟨nd, rfl⟩⟩; (try first | exact ⟨rfl, _, World.drewN_drewN _ _ _⟩ | exact ⟨rfl, _, Eq.trans (World.drewN_drewN _ _ _) (congrArg (World.drewN _) (Nat.add_assoc _ _ _))⟩)) | (go_at_call 56; (with_reducible refine (word_Within.calls a0_4 t108 t110 _ A33.out).mono ?_); rintro e w' ⟨rfl, ⟨nd, rfl⟩⟩; (try first | exact ⟨rfl, _, World.drewN_drewN _ _ _⟩ | exact ⟨rfl, _, Eq.trans (World.drewN_drewN _ _ _) (congrArg (World.drewN _) (Nat.add_assoc _ _ _))⟩)))
       repeat (go_quiet (first | (go_at_call 39; (with_reducible refine (isa_Bits.calls kj23 a1 t108 _ A29.out).mono ?_); rintro e w' ⟨rfl, ⟨nd, rfl⟩⟩; (try first | exact ⟨rfl, _, World.drewN_drewN _ _ _⟩ | exact ⟨rfl, _, Eq.trans (World.drewN_drewN _ _ _) (congrArg (World.drewN _) (Nat.add_assoc _ _ _))⟩); have hcz34_0 : wc.cell? ⟨gb103, 0, none⟩ = some (.int .i64 a0_0) := (bC_ BK103.out 0).trans rfl; have hcz34_1 : wc.cell? ⟨gb103, 1, none⟩ = some (.int .i64 a0_1) := (bC_ BK103.out 1).trans rfl; have hcz34_2 : wc.cell? ⟨gb103, 2, none⟩ = some (.int .i64 a0_2) := (bC_ BK103.out 2).trans rfl; have hcz34_3 : wc.cell? ⟨gb103, 3, none⟩ = some (.int .i64 a0_3) := (bC_ BK103.out 3).trans rfl; have hcz34_4 : wc.cell? ⟨gb103, 4, none⟩ = some (.int .i64 a0_4) := (bC_ BK103.out 4).trans rfl; have hcz34_5 : wc.cell? ⟨gb103, 5, none⟩ = some (.string a0_5) := (bC_ BK103.out 5).trans rfl; have hfz34_0 := bZ_ BK103.out 0; have hfz34_1 := bZ_ BK103.out 1; have hfz34_2 := bZ_ BK103.out 2; have hfz34_3 := bZ_ BK103.out 3; have hfz34_4 := bZ_ BK103.out 4; have hfz34_5 := bZ_ BK103.out 5) | (go_at_call 39; (with_reducible refine (isa_Bits.calls kj23 a1 t108 _ A32.out).mono ?_); rintro e w' ⟨rfl, ⟨nd, rfl⟩⟩; (try first | exact ⟨rfl, _, World.drewN_drewN _ _ _⟩ | exact ⟨rfl, _, Eq.trans (World.drewN_drewN _ _ _) (congrArg (World.drewN _) (Nat.add_assoc _ _ _))⟩)) | (go_at_call 56; (with_reducible refine (word_Within.calls a0_4 t108 t110 _ A33.out).mono ?_); rintro e w' ⟨rfl, ⟨nd, rfl⟩⟩; (try first | exact ⟨rfl, _, World.drewN_drewN _ _ _⟩ | exact ⟨rfl, _, Eq.trans (World.drewN_drewN _ _ _) (congrArg (World.drewN _) (Nat.add_assoc _ _ _))⟩))); try go_wp2_with (first | (go_at_call 39; (with_reducible refine (isa_Bits.calls kj23 a1 t108 _ A29.out).mono ?_); rintro e w' ⟨rfl, ⟨nd, rfl⟩⟩; (try first | exact ⟨rfl, _, World.drewN_drewN _ _ _⟩ | exact ⟨rfl, _, Eq.trans (World.drewN_drewN _ _ _) (congrArg (World.drewN _) (Nat.add_assoc _ _ _))⟩); have hcz34_0 : wc.cell? ⟨gb103, 0, none⟩ = some (.int .i64 a0_0) := (bC_ BK103.out 0).trans rfl; have hcz34_1 : wc.cell? ⟨gb103, 1, none⟩ = some (.int .i64 a0_1) := (bC_ BK103.out 1).trans rfl; have hcz34_2 : wc.cell? ⟨gb103, 2, none⟩ = some (.int .i64 a0_2) := (bC_ BK103.out 2).trans rfl; have hcz34_3 : wc.cell? ⟨gb103, 3, none⟩ = some (.int .i64 a0_3) := (bC_ BK103.out 3).trans rfl; have hcz34_4 : wc.cell? ⟨gb103, 4, none⟩ = some (.int .i64 a0_4) := (bC_ BK103.out 4).trans rfl; have hcz34_5 : wc.cell? ⟨gb103, 5, none⟩ = some (.string a0_5) := (bC_ BK103.out 5).trans rfl; have hfz34_0 := bZ_ BK103.out 0; have hfz34_1 := bZ_ BK103.out 1; have hfz34_2 := bZ_ BK103.out 2; have hfz34_3 := bZ_ BK103.out 3; have hfz34_4 := bZ_ BK103.out 4; have hfz34_5 := bZ_ BK103.out 5) | (go_at_call 39; (with_reducible refine (isa_Bits.calls kj23 a1 t108 _ A32.out).mono ?_); rintro e w' ⟨rfl, ⟨nd, rfl⟩⟩; (try first | exact ⟨rfl, _, World.drewN_drewN _ _ _⟩ | exact ⟨rfl, _, Eq.trans (World.drewN_drewN _ _ _) (congrArg (World.drewN _) (Nat.add_assoc _ _ _))⟩)) | (go_at_call 56; (with_reducible refine (word_Within.calls a0_4 t108 t110 _ A33.out).mono ?_); rintro e w' ⟨rfl, ⟨nd, rfl⟩⟩; (try first | exact ⟨rfl, _, World.drewN_drewN _ _ _⟩ | exact ⟨rfl, _, Eq.trans (World.drewN_drewN _ _ _) (congrArg (World.drewN _) (Nat.add_assoc _ _ _))⟩))))
       go_ret
       exact ⟨by first | rfl | (simp [eN_, eS_] <;> rfl) | (simp [*, eN_, eS_] <;> rfl), by repeat (first | (with_reducible first | exact HB.out | apply bA_ | apply bN_ | apply b1_ | refine bS_ ?_ GE103.out) | exact HB.out)⟩
end Go.Proofs.Ytfnchdlgkkdegaa.PAll
