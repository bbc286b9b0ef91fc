-- the texts that this claim needs, out of this session's and its print's (wip/shrink.py)
import Derived.Test.YtfnchdlgkkdegaaPAllx0T
import Derived.Test.YtfnchdlgkkdegaaPAllx2T
import Derived.Test.YtfnchdlgkkdegaaPAllx3T
import Derived.Test.YtfnchdlgkkdegaaPAllx5T
import Derived.Test.YtfnchdlgkkdegaaPAllx6T
import Derived.Test.YtfnchdlgkkdegaaPAllx8T
namespace Go.Proofs.Ytfnchdlgkkdegaa.PAll
open Go.RowKit Go.Proofs.YtfnchdlgkkdegaaW.PrintWords Go.Proofs.YtfnchdlgkkdegaaW.PrintLast Go.Proofs.YtfnchdlgkkdegaaW.PrintMore
attribute [local go_sem] max2_int min2_int max_two min_two max_three min_three max_four min_four   -- for this text's walks alone
set_option linter.unusedVariables false
set_option linter.unusedSimpArgs false
mutual
def bits_Ins.j0 : Nat → Int → Int → Int → Int → Int → Int → Int → Int → Int → Int → ByteArray → Option (Int × Int × Int × Int × Int × ByteArray × Int)
  | 0, _, _, _, _, _, _, _, _, _, _, _ => none
  | k + 1, x0, x5, x6, x7, x8, x160a, x160b, x160c, x160d, x160e, x160f => (isa_HasA.f k x5).bind fun t163 => (if t163 = true then (bits_Ins.j1 k x0 x5 x6 x8 x160a x160b x7 x160d x160e x160f) else (bits_Ins.j1 k x0 x5 x6 x8 x160a x160b x160c x160d x160e x160f))
def bits_Ins.j1 : Nat → Int → Int → Int → Int → Int → Int → Int → Int → Int → ByteArray → Option (Int × Int × Int × Int × Int × ByteArray × Int)
  | 0, _, _, _, _, _, _, _, _, _, _ => none
  | k + 1, x0, x5, x6, x8, x160a, x160b, x160c, x160d, x160e, x160f => if x5 = 1 then (bits_Ins.j2 k x0 x5 x160a x160b x160c x8 x160e x160f) else (if x5 = 5 then (bits_Ins.j2 k x0 x5 x160a x160b x160c x6 x160e x160f) else (bits_Ins.j2 k x0 x5 x160a x160b x160c x160d x160e x160f))
def bits_Ins.j2 : Nat → Int → Int → Int → Int → Int → Int → Int → ByteArray → Option (Int × Int × Int × Int × Int × ByteArray × Int)
  | 0, _, _, _, _, _, _, _, _ => none
  | k + 1, x0, x5, x160a, x160b, x160c, x160d, x160e, x160f => (isa_Bits.f k x5).bind fun t164 => ((isa_Target.f x5).bind fun t165 => (if t165 = true then ((word_Low.f (wrap64 (x0)) t164).bind fun t166 => (bits_Ins.j3 k x0 x160a x160b x160c x160d (wrap64 (t166)) x160f)) else (if t164 > 0 then ((word_Signed.f x0 t164).bind fun t167 => (bits_Ins.j3 k x0 x160a x160b x160c x160d t167 x160f)) else (bits_Ins.j3 k x0 x160a x160b x160c x160d x160e x160f))))
def bits_Ins.j3 : Nat → Int → Int → Int → Int → Int → Int → ByteArray → Option (Int × Int × Int × Int × Int × ByteArray × Int)
  | 0, _, _, _, _, _, _, _ => none
  | k + 1, x0, x160a, x160b, x160c, x160d, x160e, x160f => (isa_IsIns.f k x160a x160b x160c x160d x160e x160f).bind fun t168 => (if t168 = true then ((bits_Pack.f k x160a x160b x160c x160d x160e x160f).bind fun t169 => (if t169 = x0 then (some (x160a, x160b, x160c, x160d, x160e, x160f, 0)) else (some (0, 0, 0, 0, 0, (⟨#[]⟩ : ByteArray), 8)))) else (some (0, 0, 0, 0, 0, (⟨#[]⟩ : ByteArray), 8)))
end
def bits_Ins.f (k : Nat) (a0 : Int) : Option (Int × Int × Int × Int × Int × ByteArray × Int) := (isa_Is.f (wrap64 (a0 / 67108864))).bind fun t160 => (if t160 = true then ((isa_Shape.f k (wrap64 (a0 / 67108864))).bind fun t161 => ((isa_HasD.f t161).bind fun t162 => (if t162 = true then (bits_Ins.j0 k a0 t161 (wrap64 (Go.bits .and .u32 (a0 / 4194304) 15)) (wrap64 (Go.bits .and .u32 (a0 / 262144) 15)) (wrap64 (Go.bits .and .u32 (a0 / 16384) 15)) (wrap64 (a0 / 67108864)) (wrap64 (Go.bits .and .u32 (a0 / 4194304) 15)) 0 0 0 (⟨#[]⟩ : ByteArray)) else (bits_Ins.j0 k a0 t161 (wrap64 (Go.bits .and .u32 (a0 / 4194304) 15)) (wrap64 (Go.bits .and .u32 (a0 / 262144) 15)) (wrap64 (Go.bits .and .u32 (a0 / 16384) 15)) (wrap64 (a0 / 67108864)) 0 0 0 0 (⟨#[]⟩ : ByteArray))))) else (some (0, 0, 0, 0, 0, (⟨#[]⟩ : ByteArray), 8)))
theorem bits_Ins.mono_l : ∀ k, (∀ y0 y1 y2 y3 y4 y5 y6 y7 y8 y9 y10, LeO (bits_Ins.j0 k y0 y1 y2 y3 y4 y5 y6 y7 y8 y9 y10) (bits_Ins.j0 (k + 1) y0 y1 y2 y3 y4 y5 y6 y7 y8 y9 y10)) ∧ (∀ y0 y1 y2 y3 y4 y5 y6 y7 y8 y9, LeO (bits_Ins.j1 k y0 y1 y2 y3 y4 y5 y6 y7 y8 y9) (bits_Ins.j1 (k + 1) y0 y1 y2 y3 y4 y5 y6 y7 y8 y9)) ∧ (∀ y0 y1 y2 y3 y4 y5 y6 y7, LeO (bits_Ins.j2 k y0 y1 y2 y3 y4 y5 y6 y7) (bits_Ins.j2 (k + 1) y0 y1 y2 y3 y4 y5 y6 y7)) ∧ (∀ y0 y1 y2 y3 y4 y5 y6, LeO (bits_Ins.j3 k y0 y1 y2 y3 y4 y5 y6) (bits_Ins.j3 (k + 1) y0 y1 y2 y3 y4 y5 y6))
  | 0 => ⟨fun _ _ _ _ _ _ _ _ _ _ _ r h => by simp [bits_Ins.j0] at h, fun _ _ _ _ _ _ _ _ _ _ r h => by simp [bits_Ins.j1] at h, fun _ _ _ _ _ _ _ _ r h => by simp [bits_Ins.j2] at h, fun _ _ _ _ _ _ _ r h => by simp [bits_Ins.j3] at h⟩
  | k + 1 => by
    obtain ⟨ih0, ih1, ih2, ih3⟩ := bits_Ins.mono_l k
    refine ⟨?_, ?_, ?_, ?_⟩
    · intro y0 y1 y2 y3 y4 y5 y6 y7 y8 y9 y10
      unfold bits_Ins.j0
      repeat' first
      | (with_reducible exact ih0 _ _ _ _ _ _ _ _ _ _ _)
      | (with_reducible exact ih1 _ _ _ _ _ _ _ _ _ _)
      | (with_reducible exact ih2 _ _ _ _ _ _ _ _)
      | (with_reducible exact ih3 _ _ _ _ _ _ _)
      | (with_reducible exact bits_Pack.mono _ _ _ _ _ _ _)
      | (with_reducible exact isa_Bits.mono _ _)
      | (with_reducible exact isa_HasA.mono _ _)
      | (with_reducible exact isa_IsIns.mono _ _ _ _ _ _ _)
      | (with_reducible exact isa_Shape.mono _ _)
      | (with_reducible exact LeO.refl _)
      | (with_reducible exact LeO.none _)
      | (with_reducible refine LeO.ite ?_ ?_)
      | (with_reducible refine LeO.bind ?_ (fun _ => ?_))
      | exact LeO.none _
      | refine LeO.ite ?_ ?_
      | refine LeO.bind ?_ (fun _ => ?_)
    · intro y0 y1 y2 y3 y4 y5 y6 y7 y8 y9
      unfold bits_Ins.j1
      repeat' first
      | (with_reducible exact ih0 _ _ _ _ _ _ _ _ _ _ _)
      | (with_reducible exact ih1 _ _ _ _ _ _ _ _ _ _)
      | (with_reducible exact ih2 _ _ _ _ _ _ _ _)
      | (with_reducible exact ih3 _ _ _ _ _ _ _)
      | (with_reducible exact bits_Pack.mono _ _ _ _ _ _ _)
      | (with_reducible exact isa_Bits.mono _ _)
      | (with_reducible exact isa_HasA.mono _ _)
      | (with_reducible exact isa_IsIns.mono _ _ _ _ _ _ _)
      | (with_reducible exact isa_Shape.mono _ _)
      | (with_reducible exact LeO.refl _)
      | (with_reducible exact LeO.none _)
      | (with_reducible refine LeO.ite ?_ ?_)
      | (with_reducible refine LeO.bind ?_ (fun _ => ?_))
      | exact LeO.none _
      | refine LeO.ite ?_ ?_
      | refine LeO.bind ?_ (fun _ => ?_)
    · intro y0 y1 y2 y3 y4 y5 y6 y7
      unfold bits_Ins.j2
      repeat' first
      | (with_reducible exact ih0 _ _ _ _ _ _ _ _ _ _ _)
      | (with_reducible exact ih1 _ _ _ _ _ _ _ _ _ _)
      | (with_reducible exact ih2 _ _ _ _ _ _ _ _)
      | (with_reducible exact ih3 _ _ _ _ _ _ _)
      | (with_reducible exact bits_Pack.mono _ _ _ _ _ _ _)
      | (with_reducible exact isa_Bits.mono _ _)
      | (with_reducible exact isa_HasA.mono _ _)
      | (with_reducible exact isa_IsIns.mono _ _ _ _ _ _ _)
      | (with_reducible exact isa_Shape.mono _ _)
      | (with_reducible exact LeO.refl _)
      | (with_reducible exact LeO.none _)
      | (with_reducible refine LeO.ite ?_ ?_)
      | (with_reducible refine LeO.bind ?_ (fun _ => ?_))
      | exact LeO.none _
      | refine LeO.ite ?_ ?_
      | refine LeO.bind ?_ (fun _ => ?_)
    · intro y0 y1 y2 y3 y4 y5 y6
      unfold bits_Ins.j3
      repeat' first
      | (with_reducible exact ih0 _ _ _ _ _ _ _ _ _ _ _)
      | (with_reducible exact ih1 _ _ _ _ _ _ _ _ _ _)
      | (with_reducible exact ih2 _ _ _ _ _ _ _ _)
      | (with_reducible exact ih3 _ _ _ _ _ _ _)
      | (with_reducible exact bits_Pack.mono _ _ _ _ _ _ _)
      | (with_reducible exact isa_Bits.mono _ _)
      | (with_reducible exact isa_HasA.mono _ _)
      | (with_reducible exact isa_IsIns.mono _ _ _ _ _ _ _)
      | (with_reducible exact isa_Shape.mono _ _)
      | (with_reducible exact LeO.refl _)
      | (with_reducible exact LeO.none _)
      | (with_reducible refine LeO.ite ?_ ?_)
      | (with_reducible refine LeO.bind ?_ (fun _ => ?_))
      | exact LeO.none _
      | refine LeO.ite ?_ ?_
      | refine LeO.bind ?_ (fun _ => ?_)
theorem bits_Ins.mono : ∀ a0 k, LeO (bits_Ins.f k a0) (bits_Ins.f (k + 1) a0) := by
 intro a0 k
 obtain ⟨ih0, ih1, ih2, ih3⟩ := bits_Ins.mono_l k
 unfold bits_Ins.f
 repeat' first
  | (with_reducible exact ih0 _ _ _ _ _ _ _ _ _ _ _)
  | (with_reducible exact ih1 _ _ _ _ _ _ _ _ _ _)
  | (with_reducible exact ih2 _ _ _ _ _ _ _ _)
  | (with_reducible exact ih3 _ _ _ _ _ _ _)
  | (with_reducible exact bits_Pack.mono _ _ _ _ _ _ _)
  | (with_reducible exact isa_Bits.mono _ _)
  | (with_reducible exact isa_HasA.mono _ _)
  | (with_reducible exact isa_IsIns.mono _ _ _ _ _ _ _)
  | (with_reducible exact isa_Shape.mono _ _)
  | (with_reducible exact LeO.refl _)
  | (with_reducible exact LeO.none _)
  | (with_reducible refine LeO.ite ?_ ?_)
  | (with_reducible refine LeO.bind ?_ (fun _ => ?_))
  | exact LeO.none _
  | refine LeO.ite ?_ ?_
  | refine LeO.bind ?_ (fun _ => ?_)
set_option maxHeartbeats 8000000 in
set_option maxRecDepth 100000 in
theorem bits_Ins.calls (k : Nat) (a0 : Int) (r1 : Int) (r2 : Int) (r3 : Int) (r4 : Int) (r5 : Int) (r6 : ByteArray) (r7 : Int) (w : World) (h : bits_Ins.f k a0 = some (r1, r2, r3, r4, r5, r6, r7)) :
    Calls Try.prog 12 #[.int .u32 a0] w fun e w' => e = .returned (.tuple #[.agg #[.int .i64 r1, .int .i64 r2, .int .i64 r3, .int .i64 r4, .int .i64 r5, .string r6], .int .i64 r7]) ∧ Below w.heap.size w w' := by
 have hu35 := Try.underlying35
 have HB := As_.mk (Below.refl w.heap.size w)
 have H : ((isa_Is.f (wrap64 (a0 / 67108864))).bind fun t160 => (if t160 = true then ((isa_Shape.f k (wrap64 (a0 / 67108864))).bind fun t161 => ((isa_HasD.f t161).bind fun t162 => (if t162 = true then (bits_Ins.j0 k a0 t161 (wrap64 (Go.bits .and .u32 (a0 / 4194304) 15)) (wrap64 (Go.bits .and .u32 (a0 / 262144) 15)) (wrap64 (Go.bits .and .u32 (a0 / 16384) 15)) (wrap64 (a0 / 67108864)) (wrap64 (Go.bits .and .u32 (a0 / 4194304) 15)) 0 0 0 (⟨#[]⟩ : ByteArray)) else (bits_Ins.j0 k a0 t161 (wrap64 (Go.bits .and .u32 (a0 / 4194304) 15)) (wrap64 (Go.bits .and .u32 (a0 / 262144) 15)) (wrap64 (Go.bits .and .u32 (a0 / 16384) 15)) (wrap64 (a0 / 67108864)) 0 0 0 0 (⟨#[]⟩ : ByteArray))))) else (some (0, 0, 0, 0, 0, (⟨#[]⟩ : ByteArray), 8)))) = some (r1, r2, r3, r4, r5, r6, r7) := h
 clear h
 replace H := Option.bind_eq_some_iff.mp H
 obtain ⟨t160, A20, H⟩ := H
 replace H : (if t160 = true then ((isa_Shape.f k (wrap64 (a0 / 67108864))).bind fun t161 => ((isa_HasD.f t161).bind fun t162 => (if t162 = true then (bits_Ins.j0 k a0 t161 (wrap64 (Go.bits .and .u32 (a0 / 4194304) 15)) (wrap64 (Go.bits .and .u32 (a0 / 262144) 15)) (wrap64 (Go.bits .and .u32 (a0 / 16384) 15)) (wrap64 (a0 / 67108864)) (wrap64 (Go.bits .and .u32 (a0 / 4194304) 15)) 0 0 0 (⟨#[]⟩ : ByteArray)) else (bits_Ins.j0 k a0 t161 (wrap64 (Go.bits .and .u32 (a0 / 4194304) 15)) (wrap64 (Go.bits .and .u32 (a0 / 262144) 15)) (wrap64 (Go.bits .and .u32 (a0 / 16384) 15)) (wrap64 (a0 / 67108864)) 0 0 0 0 (⟨#[]⟩ : ByteArray))))) else (some (0, 0, 0, 0, 0, (⟨#[]⟩ : ByteArray), 8))) = some (r1, r2, r3, r4, r5, r6, r7) := H
 have A2 := As_.mk A20
 clear A20
 by_cases c3 : t160 = true
 ·subst c3
  have H1 : ((isa_Shape.f k (wrap64 (a0 / 67108864))).bind fun t161 => ((isa_HasD.f t161).bind fun t162 => (if t162 = true then (bits_Ins.j0 k a0 t161 (wrap64 (Go.bits .and .u32 (a0 / 4194304) 15)) (wrap64 (Go.bits .and .u32 (a0 / 262144) 15)) (wrap64 (Go.bits .and .u32 (a0 / 16384) 15)) (wrap64 (a0 / 67108864)) (wrap64 (Go.bits .and .u32 (a0 / 4194304) 15)) 0 0 0 (⟨#[]⟩ : ByteArray)) else (bits_Ins.j0 k a0 t161 (wrap64 (Go.bits .and .u32 (a0 / 4194304) 15)) (wrap64 (Go.bits .and .u32 (a0 / 262144) 15)) (wrap64 (Go.bits .and .u32 (a0 / 16384) 15)) (wrap64 (a0 / 67108864)) 0 0 0 0 (⟨#[]⟩ : ByteArray))))) = some (r1, r2, r3, r4, r5, r6, r7) := by rw [if_pos rfl] at H; exact H
  clear H
  have H := H1
  clear H1
  replace H := Option.bind_eq_some_iff.mp H
  obtain ⟨t161, A40, H⟩ := H
  replace H : ((isa_HasD.f t161).bind fun t162 => (if t162 = true then (bits_Ins.j0 k a0 t161 (wrap64 (Go.bits .and .u32 (a0 / 4194304) 15)) (wrap64 (Go.bits .and .u32 (a0 / 262144) 15)) (wrap64 (Go.bits .and .u32 (a0 / 16384) 15)) (wrap64 (a0 / 67108864)) (wrap64 (Go.bits .and .u32 (a0 / 4194304) 15)) 0 0 0 (⟨#[]⟩ : ByteArray)) else (bits_Ins.j0 k a0 t161 (wrap64 (Go.bits .and .u32 (a0 / 4194304) 15)) (wrap64 (Go.bits .and .u32 (a0 / 262144) 15)) (wrap64 (Go.bits .and .u32 (a0 / 16384) 15)) (wrap64 (a0 / 67108864)) 0 0 0 0 (⟨#[]⟩ : ByteArray)))) = some (r1, r2, r3, r4, r5, r6, r7) := H
  have A4 := As_.mk A40
  clear A40
  replace H := Option.bind_eq_some_iff.mp H
  obtain ⟨t162, A50, H⟩ := H
  replace H : (if t162 = true then (bits_Ins.j0 k a0 t161 (wrap64 (Go.bits .and .u32 (a0 / 4194304) 15)) (wrap64 (Go.bits .and .u32 (a0 / 262144) 15)) (wrap64 (Go.bits .and .u32 (a0 / 16384) 15)) (wrap64 (a0 / 67108864)) (wrap64 (Go.bits .and .u32 (a0 / 4194304) 15)) 0 0 0 (⟨#[]⟩ : ByteArray)) else (bits_Ins.j0 k a0 t161 (wrap64 (Go.bits .and .u32 (a0 / 4194304) 15)) (wrap64 (Go.bits .and .u32 (a0 / 262144) 15)) (wrap64 (Go.bits .and .u32 (a0 / 16384) 15)) (wrap64 (a0 / 67108864)) 0 0 0 0 (⟨#[]⟩ : ByteArray))) = some (r1, r2, r3, r4, r5, r6, r7) := H
  have A5 := As_.mk A50
  clear A50
  have HC6 := As_.mk H
  clear H
  go_enter Try.func12, Try.ntmps12
  go_upto_if 35 with (first | ((with_reducible refine gate_dst (N := 2) rfl ?_); refine box_event ?hg (N := 2) ?hd (cs := #[.int .i64 0, .int .i64 0, .int .i64 0, .int .i64 0, .int .i64 0, .string (⟨#[]⟩ : ByteArray)]) (t := 35) ?hr ?_; (case hd => rfl); (case hg => rfl); (case hr => first | (go_simp; done) | (go_simp; rfl)); intro gb158 hg w7 hbox hb; have n0_ := As_.mk (bT_ (by repeat (first | (with_reducible first | exact HB.out | apply bA_ | apply bN_ | apply b1_) | exact HB.out)) hb); have n1_ := As_.mk (hbox); have n2_ := As_.mk ((by rw [hg]; exact (bY_ (by repeat (first | (with_reducible first | exact HB.out | apply bA_ | apply bN_ | apply b1_) | exact HB.out))) : w.heap.size ≤ gb158)); have n3_ := As_.mk ((by rw [hg]; exact (bY_ (by repeat (first | (with_reducible first | exact HB.out | apply bA_ | apply bN_ | apply b1_) | exact HB.out))) : w.heap.size ≤ gb158)); clear HB; have HB := n0_; have BK158 := n1_; have GW158 := n2_; have GE158 := n3_; clear n0_ n1_ n2_ n3_; clear hb hbox hg) | ((with_reducible refine gate_dst (N := 4) rfl ?_); refine box_event ?hg (N := 4) ?hd (cs := #[.int .i64 0, .int .i64 0, .int .i64 0, .int .i64 0, .int .i64 0, .string (⟨#[]⟩ : ByteArray)]) (t := 35) ?hr ?_; (case hd => rfl); (case hg => rfl); (case hr => first | (go_simp; done) | (go_simp; rfl)); intro gb159 hg w8 hbox hb; have n0_ := As_.mk (kB_ (g := gb158) (o := .cells #[.int .i64 0, .int .i64 0, .int .i64 0, .int .i64 0, .int .i64 0, .string (⟨#[]⟩ : ByteArray)] 35 (0, 0)) (by (with_reducible repeat (first | refine kN_ ?_ _ | refine kD_ ?_ | refine kA_ ?_ _)); exact BK158.out) hb); have n1_ := As_.mk (bT_ (by repeat (first | (with_reducible first | exact HB.out | apply bA_ | apply bN_ | apply b1_ | refine bS_ ?_ GE158.out) | exact HB.out)) hb); have n2_ := As_.mk (hbox); have n3_ := As_.mk ((by rw [hg]; exact (bY_ (by repeat (first | (with_reducible first | exact HB.out | apply bA_ | apply bN_ | apply b1_ | refine bS_ ?_ GE158.out) | exact HB.out))) : w.heap.size ≤ gb159)); have n4_ := As_.mk ((by rw [hg]; exact (bY_ (by repeat (first | (with_reducible first | exact HB.out | apply bA_ | apply bN_ | apply b1_ | refine bS_ ?_ GE158.out) | exact HB.out))) : w.heap.size ≤ gb159)); have n5_ := As_.mk ((by rw [hg]; exact Nat.ne_of_lt (blk_lt (g := gb158) (o := .cells #[.int .i64 0, .int .i64 0, .int .i64 0, .int .i64 0, .int .i64 0, .string (⟨#[]⟩ : ByteArray)] 35 (0, 0)) (by (with_reducible repeat (first | refine kN_ ?_ _ | refine kD_ ?_ | refine kA_ ?_ _)); exact BK158.out)) : gb158 ≠ gb159)); have n6_ := As_.mk ((by rw [hg]; exact Nat.ne_of_gt (blk_lt (g := gb158) (o := .cells #[.int .i64 0, .int .i64 0, .int .i64 0, .int .i64 0, .int .i64 0, .string (⟨#[]⟩ : ByteArray)] 35 (0, 0)) (by (with_reducible repeat (first | refine kN_ ?_ _ | refine kD_ ?_ | refine kA_ ?_ _)); exact BK158.out)) : gb159 ≠ gb158)); clear BK158; clear HB; have BK158 := n0_; have HB := n1_; have BK159 := n2_; have GW159 := n3_; have GE159 := n4_; have NB158_159 := n5_; have NB159_158 := n6_; clear n0_ n1_ n2_ n3_ n4_ n5_ n6_; clear hb hbox hg; have hnb9 := NB159_158.out; have hnc9 := NB158_159.out; have hcz10_0 : w8.cell? ⟨gb159, 0, none⟩ = some (.int .i64 0) := (bC_ BK159.out 0).trans rfl; have hcz10_1 : w8.cell? ⟨gb159, 1, none⟩ = some (.int .i64 0) := (bC_ BK159.out 1).trans rfl; have hcz10_2 : w8.cell? ⟨gb159, 2, none⟩ = some (.int .i64 0) := (bC_ BK159.out 2).trans rfl; have hcz10_3 : w8.cell? ⟨gb159, 3, none⟩ = some (.int .i64 0) := (bC_ BK159.out 3).trans rfl; have hcz10_4 : w8.cell? ⟨gb159, 4, none⟩ = some (.int .i64 0) := (bC_ BK159.out 4).trans rfl; have hcz10_5 : w8.cell? ⟨gb159, 5, none⟩ = some (.string (⟨#[]⟩ : ByteArray)) := (bC_ BK159.out 5).trans rfl; have hfz10_0 := bZ_ BK159.out 0; have hfz10_1 := bZ_ BK159.out 1; have hfz10_2 := bZ_ BK159.out 2; have hfz10_3 := bZ_ BK159.out 3; have hfz10_4 := bZ_ BK159.out 4; have hfz10_5 := bZ_ BK159.out 5) | ((with_reducible refine gC_ (f := 35) rfl ?_); refine goesL_ (some 16) rfl rfl Try.func35 (by kernel_rfl) rfl #[.int .i64 (wrap64 (a0 / 67108864))] rfl (by (try simp only [List.map_toArray, List.map_cons, List.map_nil]); first | done | rfl) ?_; (with_reducible refine (isa_Is.calls (wrap64 (a0 / 67108864)) true _ A2.out).mono ?_); rintro e w' ⟨rfl, ⟨nd, rfl⟩⟩; refine ⟨_, rfl, ?_⟩) | ((with_reducible refine gC_ (f := 36) rfl ?_); refine goesL_ (some 21) rfl rfl Try.func36 (by kernel_rfl) rfl #[.int .i64 (wrap64 (a0 / 67108864))] rfl (by (try simp only [List.map_toArray, List.map_cons, List.map_nil]); first | done | rfl) ?_; (with_reducible refine (isa_Shape.calls k (wrap64 (a0 / 67108864)) t161 _ A4.out).mono ?_); rintro e w' ⟨rfl, ⟨nd, rfl⟩⟩; refine ⟨_, rfl, ?_⟩) | ((with_reducible refine gC_ (f := 37) rfl ?_); refine goesL_ (some 35) rfl rfl Try.func37 (by kernel_rfl) rfl #[.int .i64 t161] rfl (by (try simp only [List.map_toArray, List.map_cons, List.map_nil]); first | done | rfl) ?_; (with_reducible refine (isa_HasD.calls t161 t162 _ A5.out).mono ?_); rintro e w' ⟨rfl, ⟨nd, rfl⟩⟩; refine ⟨_, rfl, ?_⟩))
  (try simp only [Act.put, List.setIfInBounds_toArray, List.set_cons_zero, List.set_cons_succ])
  go_cut [] (fun wc => ∃ (kq : Nat) (x160b_5 : Int), As_ (bits_Ins.j0 kq a0 t161 (wrap64 (Go.bits .and .u32 (a0 / 4194304) 15)) (wrap64 (Go.bits .and .u32 (a0 / 262144) 15)) (wrap64 (Go.bits .and .u32 (a0 / 16384) 15)) (wrap64 (a0 / 67108864)) x160b_5 0 0 0 (⟨#[]⟩ : ByteArray) = some (r1, r2, r3, r4, r5, r6, r7)) ∧ As_ (kq ≤ k) ∧ As_ (wc.heap[gb158]? = some (.cells #[.int .i64 0, .int .i64 0, .int .i64 0, .int .i64 0, .int .i64 0, .string (⟨#[]⟩ : ByteArray)] 35 (0, 0))) ∧ As_ (wc.heap[gb159]? = some (.cells #[.int .i64 (wrap64 (a0 / 67108864)), .int .i64 x160b_5, .int .i64 0, .int .i64 0, .int .i64 0, .string (⟨#[]⟩ : ByteArray)] 35 (0, 0))) ∧ As_ (Below w.heap.size w wc))
  case first =>
   have H := HC6.out
   clear HC6
   by_cases c11 : t162 = true
   ·subst c11
    have H1 : (bits_Ins.j0 k a0 t161 (wrap64 (Go.bits .and .u32 (a0 / 4194304) 15)) (wrap64 (Go.bits .and .u32 (a0 / 262144) 15)) (wrap64 (Go.bits .and .u32 (a0 / 16384) 15)) (wrap64 (a0 / 67108864)) (wrap64 (Go.bits .and .u32 (a0 / 4194304) 15)) 0 0 0 (⟨#[]⟩ : ByteArray)) = some (r1, r2, r3, r4, r5, r6, r7) := by rw [if_pos rfl] at H; exact H
    clear H
    have H := H1
    clear H1
    have H' := As_.mk H
    clear H
    have hnb12 := NB159_158.out
    have hnc12 := NB158_159.out
    have hcz13_0 : w8.cell? ⟨gb159, 0, none⟩ = some (.int .i64 0) := (bC_ BK159.out 0).trans rfl
    have hcz13_1 : w8.cell? ⟨gb159, 1, none⟩ = some (.int .i64 0) := (bC_ BK159.out 1).trans rfl
    have hcz13_2 : w8.cell? ⟨gb159, 2, none⟩ = some (.int .i64 0) := (bC_ BK159.out 2).trans rfl
    have hcz13_3 : w8.cell? ⟨gb159, 3, none⟩ = some (.int .i64 0) := (bC_ BK159.out 3).trans rfl
    have hcz13_4 : w8.cell? ⟨gb159, 4, none⟩ = some (.int .i64 0) := (bC_ BK159.out 4).trans rfl
    have hcz13_5 : w8.cell? ⟨gb159, 5, none⟩ = some (.string (⟨#[]⟩ : ByteArray)) := (bC_ BK159.out 5).trans rfl
    have hfz13_0 := bZ_ BK159.out 0
    have hfz13_1 := bZ_ BK159.out 1
    have hfz13_2 := bZ_ BK159.out 2
    have hfz13_3 := bZ_ BK159.out 3
    have hfz13_4 := bZ_ BK159.out 4
    have hfz13_5 := bZ_ BK159.out 5
    go_wp2
    go_meet
    case rel => exact ⟨_, (wrap64 (Go.bits .and .u32 (a0 / 4194304) 15)), H', ⟨by first | omega | exact Nat.le_refl _⟩, ⟨by (with_reducible repeat (first | refine kN_ ?_ _ | refine kD_ ?_ | refine kA_ ?_ _)); refine blk_far ?_ NB158_159.out _; (with_reducible repeat (first | refine kN_ ?_ _ | refine kD_ ?_ | refine kA_ ?_ _)); refine blk_far ?_ NB158_159.out _; (with_reducible repeat (first | refine kN_ ?_ _ | refine kD_ ?_ | refine kA_ ?_ _)); refine blk_far ?_ NB158_159.out _; (with_reducible repeat (first | refine kN_ ?_ _ | refine kD_ ?_ | refine kA_ ?_ _)); refine blk_far ?_ NB158_159.out _; (with_reducible repeat (first | refine kN_ ?_ _ | refine kD_ ?_ | refine kA_ ?_ _)); refine blk_far ?_ NB158_159.out _; (with_reducible repeat (first | refine kN_ ?_ _ | refine kD_ ?_ | refine kA_ ?_ _)); refine blk_far ?_ NB158_159.out _; (with_reducible repeat (first | refine kN_ ?_ _ | refine kD_ ?_ | refine kA_ ?_ _)); refine blk_far ?_ NB158_159.out _; (with_reducible repeat (first | refine kN_ ?_ _ | refine kD_ ?_ | refine kA_ ?_ _)); exact BK158.out⟩, ⟨by (with_reducible repeat (first | refine kN_ ?_ _ | refine kD_ ?_ | refine kA_ ?_ _)); refine blk_put (cs := #[.int .i64 (wrap64 (a0 / 67108864)), .int .i64 0, .int .i64 0, .int .i64 0, .int .i64 0, .string (⟨#[]⟩ : ByteArray)]) ?_ 1 _ rfl; (with_reducible repeat (first | refine kN_ ?_ _ | refine kD_ ?_ | refine kA_ ?_ _)); refine blk_put (cs := #[.int .i64 (wrap64 (a0 / 67108864)), .int .i64 0, .int .i64 0, .int .i64 0, .int .i64 0, .string (⟨#[]⟩ : ByteArray)]) ?_ 5 _ rfl; (with_reducible repeat (first | refine kN_ ?_ _ | refine kD_ ?_ | refine kA_ ?_ _)); refine blk_put (cs := #[.int .i64 (wrap64 (a0 / 67108864)), .int .i64 0, .int .i64 0, .int .i64 0, .int .i64 0, .string (⟨#[]⟩ : ByteArray)]) ?_ 4 _ rfl; (with_reducible repeat (first | refine kN_ ?_ _ | refine kD_ ?_ | refine kA_ ?_ _)); refine blk_put (cs := #[.int .i64 (wrap64 (a0 / 67108864)), .int .i64 0, .int .i64 0, .int .i64 0, .int .i64 0, .string (⟨#[]⟩ : ByteArray)]) ?_ 3 _ rfl; (with_reducible repeat (first | refine kN_ ?_ _ | refine kD_ ?_ | refine kA_ ?_ _)); refine blk_put (cs := #[.int .i64 (wrap64 (a0 / 67108864)), .int .i64 0, .int .i64 0, .int .i64 0, .int .i64 0, .string (⟨#[]⟩ : ByteArray)]) ?_ 2 _ rfl; (with_reducible repeat (first | refine kN_ ?_ _ | refine kD_ ?_ | refine kA_ ?_ _)); refine blk_put (cs := #[.int .i64 (wrap64 (a0 / 67108864)), .int .i64 0, .int .i64 0, .int .i64 0, .int .i64 0, .string (⟨#[]⟩ : ByteArray)]) ?_ 1 _ rfl; (with_reducible repeat (first | refine kN_ ?_ _ | refine kD_ ?_ | refine kA_ ?_ _)); refine blk_put (cs := #[.int .i64 0, .int .i64 0, .int .i64 0, .int .i64 0, .int .i64 0, .string (⟨#[]⟩ : ByteArray)]) ?_ 0 _ rfl; (with_reducible repeat (first | refine kN_ ?_ _ | refine kD_ ?_ | refine kA_ ?_ _)); exact BK159.out⟩, ⟨by repeat (first | (with_reducible first | exact HB.out | apply bA_ | apply bN_ | apply b1_ | refine bS_ ?_ GE158.out | refine bS_ ?_ GE159.out) | exact HB.out)⟩⟩
   replace c11 := Bool.eq_false_iff.mpr c11
   subst c11
   have H1 : (bits_Ins.j0 k a0 t161 (wrap64 (Go.bits .and .u32 (a0 / 4194304) 15)) (wrap64 (Go.bits .and .u32 (a0 / 262144) 15)) (wrap64 (Go.bits .and .u32 (a0 / 16384) 15)) (wrap64 (a0 / 67108864)) 0 0 0 0 (⟨#[]⟩ : ByteArray)) = some (r1, r2, r3, r4, r5, r6, r7) := by rw [if_neg (show ¬ (false = true) by decide)] at H; exact H
   clear H
   have H := H1
   clear H1
   have H' := As_.mk H
   clear H
   go_wp2
   go_meet
   case rel => exact ⟨_, (0), H', ⟨by first | omega | exact Nat.le_refl _⟩, ⟨by (with_reducible repeat (first | refine kN_ ?_ _ | refine kD_ ?_ | refine kA_ ?_ _)); refine blk_far ?_ NB158_159.out _; (with_reducible repeat (first | refine kN_ ?_ _ | refine kD_ ?_ | refine kA_ ?_ _)); refine blk_far ?_ NB158_159.out _; (with_reducible repeat (first | refine kN_ ?_ _ | refine kD_ ?_ | refine kA_ ?_ _)); refine blk_far ?_ NB158_159.out _; (with_reducible repeat (first | refine kN_ ?_ _ | refine kD_ ?_ | refine kA_ ?_ _)); refine blk_far ?_ NB158_159.out _; (with_reducible repeat (first | refine kN_ ?_ _ | refine kD_ ?_ | refine kA_ ?_ _)); refine blk_far ?_ NB158_159.out _; (with_reducible repeat (first | refine kN_ ?_ _ | refine kD_ ?_ | refine kA_ ?_ _)); refine blk_far ?_ NB158_159.out _; (with_reducible repeat (first | refine kN_ ?_ _ | refine kD_ ?_ | refine kA_ ?_ _)); exact BK158.out⟩, ⟨by (with_reducible repeat (first | refine kN_ ?_ _ | refine kD_ ?_ | refine kA_ ?_ _)); refine blk_put (cs := #[.int .i64 (wrap64 (a0 / 67108864)), .int .i64 0, .int .i64 0, .int .i64 0, .int .i64 0, .string (⟨#[]⟩ : ByteArray)]) ?_ 5 _ rfl; (with_reducible repeat (first | refine kN_ ?_ _ | refine kD_ ?_ | refine kA_ ?_ _)); refine blk_put (cs := #[.int .i64 (wrap64 (a0 / 67108864)), .int .i64 0, .int .i64 0, .int .i64 0, .int .i64 0, .string (⟨#[]⟩ : ByteArray)]) ?_ 4 _ rfl; (with_reducible repeat (first | refine kN_ ?_ _ | refine kD_ ?_ | refine kA_ ?_ _)); refine blk_put (cs := #[.int .i64 (wrap64 (a0 / 67108864)), .int .i64 0, .int .i64 0, .int .i64 0, .int .i64 0, .string (⟨#[]⟩ : ByteArray)]) ?_ 3 _ rfl; (with_reducible repeat (first | refine kN_ ?_ _ | refine kD_ ?_ | refine kA_ ?_ _)); refine blk_put (cs := #[.int .i64 (wrap64 (a0 / 67108864)), .int .i64 0, .int .i64 0, .int .i64 0, .int .i64 0, .string (⟨#[]⟩ : ByteArray)]) ?_ 2 _ rfl; (with_reducible repeat (first | refine kN_ ?_ _ | refine kD_ ?_ | refine kA_ ?_ _)); refine blk_put (cs := #[.int .i64 (wrap64 (a0 / 67108864)), .int .i64 0, .int .i64 0, .int .i64 0, .int .i64 0, .string (⟨#[]⟩ : ByteArray)]) ?_ 1 _ rfl; (with_reducible repeat (first | refine kN_ ?_ _ | refine kD_ ?_ | refine kA_ ?_ _)); refine blk_put (cs := #[.int .i64 0, .int .i64 0, .int .i64 0, .int .i64 0, .int .i64 0, .string (⟨#[]⟩ : ByteArray)]) ?_ 0 _ rfl; (with_reducible repeat (first | refine kN_ ?_ _ | refine kD_ ?_ | refine kA_ ?_ _)); exact BK159.out⟩, ⟨by repeat (first | (with_reducible first | exact HB.out | apply bA_ | apply bN_ | apply b1_ | refine bS_ ?_ GE158.out | refine bS_ ?_ GE159.out) | exact HB.out)⟩⟩
  case rest =>
   clear HC6
   obtain ⟨kq, x160b_5, HA, HJ5, BK158, BK159, HB⟩ := hcut
   cases kq with
   | zero => exact absurd HA.out (by simp [bits_Ins.j0])
   | succ kj5 =>
    have H := HA.out
    clear HA
    simp only [bits_Ins.j0] at H
    replace H := Option.bind_eq_some_iff.mp H
    obtain ⟨t163, A140, H⟩ := H
    replace H : (if t163 = true then (bits_Ins.j1 kj5 a0 t161 (wrap64 (Go.bits .and .u32 (a0 / 4194304) 15)) (wrap64 (Go.bits .and .u32 (a0 / 16384) 15)) (wrap64 (a0 / 67108864)) x160b_5 (wrap64 (Go.bits .and .u32 (a0 / 262144) 15)) 0 0 (⟨#[]⟩ : ByteArray)) else (bits_Ins.j1 kj5 a0 t161 (wrap64 (Go.bits .and .u32 (a0 / 4194304) 15)) (wrap64 (Go.bits .and .u32 (a0 / 16384) 15)) (wrap64 (a0 / 67108864)) x160b_5 0 0 0 (⟨#[]⟩ : ByteArray))) = some (r1, r2, r3, r4, r5, r6, r7) := H
    have A14 := As_.mk A140
    clear A140
    have HC15 := As_.mk H
    clear H
    go_upto_if 39 with (first | ((with_reducible refine gC_ (f := 38) rfl ?_); refine goesL_ (some 39) rfl rfl Try.func38 (by kernel_rfl) rfl #[.int .i64 t161] rfl (by (try simp only [List.map_toArray, List.map_cons, List.map_nil]); first | done | rfl) ?_; (with_reducible refine (isa_HasA.calls kj5 t161 t163 _ A14.out).mono ?_); rintro e w' ⟨rfl, ⟨nd, rfl⟩⟩; refine ⟨_, rfl, ?_⟩))
    (try simp only [Act.put, List.setIfInBounds_toArray, List.set_cons_zero, List.set_cons_succ])
    go_cut [] (fun wc => ∃ (kq : Nat) (x160c_14 : Int), As_ (bits_Ins.j1 kq a0 t161 (wrap64 (Go.bits .and .u32 (a0 / 4194304) 15)) (wrap64 (Go.bits .and .u32 (a0 / 16384) 15)) (wrap64 (a0 / 67108864)) x160b_5 x160c_14 0 0 (⟨#[]⟩ : ByteArray) = some (r1, r2, r3, r4, r5, r6, r7)) ∧ As_ (kq ≤ kj5) ∧ As_ (wc.heap[gb158]? = some (.cells #[.int .i64 0, .int .i64 0, .int .i64 0, .int .i64 0, .int .i64 0, .string (⟨#[]⟩ : ByteArray)] 35 (0, 0))) ∧ As_ (wc.heap[gb159]? = some (.cells #[.int .i64 (wrap64 (a0 / 67108864)), .int .i64 x160b_5, .int .i64 x160c_14, .int .i64 0, .int .i64 0, .string (⟨#[]⟩ : ByteArray)] 35 (0, 0))) ∧ As_ (Below w.heap.size w wc))
    case first =>
     have H := HC15.out
     clear HC15
     by_cases c16 : t163 = true
     ·subst c16
      have H1 : (bits_Ins.j1 kj5 a0 t161 (wrap64 (Go.bits .and .u32 (a0 / 4194304) 15)) (wrap64 (Go.bits .and .u32 (a0 / 16384) 15)) (wrap64 (a0 / 67108864)) x160b_5 (wrap64 (Go.bits .and .u32 (a0 / 262144) 15)) 0 0 (⟨#[]⟩ : ByteArray)) = some (r1, r2, r3, r4, r5, r6, r7) := by rw [if_pos rfl] at H; exact H
      clear H
      have H := H1
      clear H1
      have H' := As_.mk H
      clear H
      have hnb17 := NB159_158.out
      have hnc17 := NB158_159.out
      have hcz18_0 : wc.cell? ⟨gb159, 0, none⟩ = some (.int .i64 (wrap64 (a0 / 67108864))) := (bC_ BK159.out 0).trans rfl
      have hcz18_1 : wc.cell? ⟨gb159, 1, none⟩ = some (.int .i64 x160b_5) := (bC_ BK159.out 1).trans rfl
      have hcz18_2 : wc.cell? ⟨gb159, 2, none⟩ = some (.int .i64 0) := (bC_ BK159.out 2).trans rfl
      have hcz18_3 : wc.cell? ⟨gb159, 3, none⟩ = some (.int .i64 0) := (bC_ BK159.out 3).trans rfl
      have hcz18_4 : wc.cell? ⟨gb159, 4, none⟩ = some (.int .i64 0) := (bC_ BK159.out 4).trans rfl
      have hcz18_5 : wc.cell? ⟨gb159, 5, none⟩ = some (.string (⟨#[]⟩ : ByteArray)) := (bC_ BK159.out 5).trans rfl
      have hfz18_0 := bZ_ BK159.out 0
      have hfz18_1 := bZ_ BK159.out 1
      have hfz18_2 := bZ_ BK159.out 2
      have hfz18_3 := bZ_ BK159.out 3
      have hfz18_4 := bZ_ BK159.out 4
      have hfz18_5 := bZ_ BK159.out 5
      go_wp2
      go_meet
      case rel => exact ⟨_, ((wrap64 (Go.bits .and .u32 (a0 / 262144) 15))), H', ⟨by have := HJ5.out; first | omega | exact Nat.le_refl _⟩, ⟨by (with_reducible repeat (first | refine kN_ ?_ _ | refine kD_ ?_ | refine kA_ ?_ _)); refine blk_far ?_ NB158_159.out _; (with_reducible repeat (first | refine kN_ ?_ _ | refine kD_ ?_ | refine kA_ ?_ _)); exact BK158.out⟩, ⟨by (with_reducible repeat (first | refine kN_ ?_ _ | refine kD_ ?_ | refine kA_ ?_ _)); refine blk_put (cs := #[.int .i64 (wrap64 (a0 / 67108864)), .int .i64 x160b_5, .int .i64 0, .int .i64 0, .int .i64 0, .string (⟨#[]⟩ : ByteArray)]) ?_ 2 _ rfl; (with_reducible repeat (first | refine kN_ ?_ _ | refine kD_ ?_ | refine kA_ ?_ _)); exact BK159.out⟩, ⟨by repeat (first | (with_reducible first | exact HB.out | apply bA_ | apply bN_ | apply b1_ | refine bS_ ?_ GE158.out | refine bS_ ?_ GE159.out) | exact HB.out)⟩⟩
     replace c16 := Bool.eq_false_iff.mpr c16
     subst c16
     have H1 : (bits_Ins.j1 kj5 a0 t161 (wrap64 (Go.bits .and .u32 (a0 / 4194304) 15)) (wrap64 (Go.bits .and .u32 (a0 / 16384) 15)) (wrap64 (a0 / 67108864)) x160b_5 0 0 0 (⟨#[]⟩ : ByteArray)) = some (r1, r2, r3, r4, r5, r6, r7) := by rw [if_neg (show ¬ (false = true) by decide)] at H; exact H
     clear H
     have H := H1
     clear H1
     have H' := As_.mk H
     clear H
     go_wp2
     go_meet
     case rel => exact ⟨_, (0), H', ⟨by have := HJ5.out; first | omega | exact Nat.le_refl _⟩, ⟨by (with_reducible repeat (first | refine kN_ ?_ _ | refine kD_ ?_ | refine kA_ ?_ _)); exact BK158.out⟩, ⟨by (with_reducible repeat (first | refine kN_ ?_ _ | refine kD_ ?_ | refine kA_ ?_ _)); exact BK159.out⟩, ⟨by repeat (first | (with_reducible first | exact HB.out | apply bA_ | apply bN_ | apply b1_ | refine bS_ ?_ GE158.out | refine bS_ ?_ GE159.out) | exact HB.out)⟩⟩
    case rest =>
     clear HC15
     obtain ⟨kq, x160c_14, HA, HJ14, BK158, BK159, HB⟩ := hcut
     cases kq with
     | zero => exact absurd HA.out (by simp [bits_Ins.j1])
     | succ kj14 =>
      have H := HA.out
      clear HA
      simp only [bits_Ins.j1] at H
      have HC19 := As_.mk H
      clear H
      go_upto_block 0 with (fail)
      go_cut [] (fun wc => ∃ (kq : Nat) (x160d_18 : Int), As_ (bits_Ins.j2 kq a0 t161 (wrap64 (a0 / 67108864)) x160b_5 x160c_14 x160d_18 0 (⟨#[]⟩ : ByteArray) = some (r1, r2, r3, r4, r5, r6, r7)) ∧ As_ (kq ≤ kj14) ∧ As_ (wc.heap[gb158]? = some (.cells #[.int .i64 0, .int .i64 0, .int .i64 0, .int .i64 0, .int .i64 0, .string (⟨#[]⟩ : ByteArray)] 35 (0, 0))) ∧ As_ (wc.heap[gb159]? = some (.cells #[.int .i64 (wrap64 (a0 / 67108864)), .int .i64 x160b_5, .int .i64 x160c_14, .int .i64 x160d_18, .int .i64 0, .string (⟨#[]⟩ : ByteArray)] 35 (0, 0))) ∧ As_ (Below w.heap.size w wc))
      case first =>
       have H := HC19.out
       clear HC19
       by_cases c20 : t161 = 1
       ·rw [if_pos c20] at H
        have c20b0 : (t161 == 1) = true := beq_iff_eq.mpr c20
        have c20b1 : (t161 != 1) = false := bne_eq_false_iff_eq.mpr c20
        clear c20
        (first | rw [c20b0] | (simp only [i64_w, i32_w]; rw [c20b0]) | skip)
        have H' := As_.mk H
        clear H
        have hnb21 := NB159_158.out
        have hnc21 := NB158_159.out
        have hcz22_0 : wc.cell? ⟨gb159, 0, none⟩ = some (.int .i64 (wrap64 (a0 / 67108864))) := (bC_ BK159.out 0).trans rfl
        have hcz22_1 : wc.cell? ⟨gb159, 1, none⟩ = some (.int .i64 x160b_5) := (bC_ BK159.out 1).trans rfl
        have hcz22_2 : wc.cell? ⟨gb159, 2, none⟩ = some (.int .i64 x160c_14) := (bC_ BK159.out 2).trans rfl
        have hcz22_3 : wc.cell? ⟨gb159, 3, none⟩ = some (.int .i64 0) := (bC_ BK159.out 3).trans rfl
        have hcz22_4 : wc.cell? ⟨gb159, 4, none⟩ = some (.int .i64 0) := (bC_ BK159.out 4).trans rfl
        have hcz22_5 : wc.cell? ⟨gb159, 5, none⟩ = some (.string (⟨#[]⟩ : ByteArray)) := (bC_ BK159.out 5).trans rfl
        have hfz22_0 := bZ_ BK159.out 0
        have hfz22_1 := bZ_ BK159.out 1
        have hfz22_2 := bZ_ BK159.out 2
        have hfz22_3 := bZ_ BK159.out 3
        have hfz22_4 := bZ_ BK159.out 4
        have hfz22_5 := bZ_ BK159.out 5
        go_wp2
        go_meet
        case rel => exact ⟨_, ((wrap64 (Go.bits .and .u32 (a0 / 16384) 15))), H', ⟨by have := HJ5.out; have := HJ14.out; first | omega | exact Nat.le_refl _⟩, ⟨by (with_reducible repeat (first | refine kN_ ?_ _ | refine kD_ ?_ | refine kA_ ?_ _)); refine blk_far ?_ NB158_159.out _; (with_reducible repeat (first | refine kN_ ?_ _ | refine kD_ ?_ | refine kA_ ?_ _)); exact BK158.out⟩, ⟨by (with_reducible repeat (first | refine kN_ ?_ _ | refine kD_ ?_ | refine kA_ ?_ _)); refine blk_put (cs := #[.int .i64 (wrap64 (a0 / 67108864)), .int .i64 x160b_5, .int .i64 x160c_14, .int .i64 0, .int .i64 0, .string (⟨#[]⟩ : ByteArray)]) ?_ 3 _ rfl; (with_reducible repeat (first | refine kN_ ?_ _ | refine kD_ ?_ | refine kA_ ?_ _)); exact BK159.out⟩, ⟨by repeat (first | (with_reducible first | exact HB.out | apply bA_ | apply bN_ | apply b1_ | refine bS_ ?_ GE158.out | refine bS_ ?_ GE159.out) | exact HB.out)⟩⟩
       rw [if_neg c20] at H
       have c20b0 : (t161 == 1) = false := beq_eq_false_iff_ne.mpr c20
       have c20b1 : (t161 != 1) = true := bne_iff_ne.mpr c20
       (first | rw [c20b0] | (simp only [i64_w, i32_w]; rw [c20b0]) | skip)
       by_cases c23 : t161 = 5
       ·rw [if_pos c23] at H
        have c23b0 : (t161 == 5) = true := beq_iff_eq.mpr c23
        have c23b1 : (t161 != 5) = false := bne_eq_false_iff_eq.mpr c23
        clear c23
        have H' := As_.mk H
        clear H
        have hnb24 := NB159_158.out
        have hnc24 := NB158_159.out
        have hcz25_0 : wc.cell? ⟨gb159, 0, none⟩ = some (.int .i64 (wrap64 (a0 / 67108864))) := (bC_ BK159.out 0).trans rfl
        have hcz25_1 : wc.cell? ⟨gb159, 1, none⟩ = some (.int .i64 x160b_5) := (bC_ BK159.out 1).trans rfl
        have hcz25_2 : wc.cell? ⟨gb159, 2, none⟩ = some (.int .i64 x160c_14) := (bC_ BK159.out 2).trans rfl
        have hcz25_3 : wc.cell? ⟨gb159, 3, none⟩ = some (.int .i64 0) := (bC_ BK159.out 3).trans rfl
        have hcz25_4 : wc.cell? ⟨gb159, 4, none⟩ = some (.int .i64 0) := (bC_ BK159.out 4).trans rfl
        have hcz25_5 : wc.cell? ⟨gb159, 5, none⟩ = some (.string (⟨#[]⟩ : ByteArray)) := (bC_ BK159.out 5).trans rfl
        have hfz25_0 := bZ_ BK159.out 0
        have hfz25_1 := bZ_ BK159.out 1
        have hfz25_2 := bZ_ BK159.out 2
        have hfz25_3 := bZ_ BK159.out 3
        have hfz25_4 := bZ_ BK159.out 4
        have hfz25_5 := bZ_ BK159.out 5
        go_wp2
        go_meet
        case rel => exact ⟨_, ((wrap64 (Go.bits .and .u32 (a0 / 4194304) 15))), H', ⟨by have := HJ5.out; have := HJ14.out; first | omega | exact Nat.le_refl _⟩, ⟨by (with_reducible repeat (first | refine kN_ ?_ _ | refine kD_ ?_ | refine kA_ ?_ _)); refine blk_far ?_ NB158_159.out _; (with_reducible repeat (first | refine kN_ ?_ _ | refine kD_ ?_ | refine kA_ ?_ _)); exact BK158.out⟩, ⟨by (with_reducible repeat (first | refine kN_ ?_ _ | refine kD_ ?_ | refine kA_ ?_ _)); refine blk_put (cs := #[.int .i64 (wrap64 (a0 / 67108864)), .int .i64 x160b_5, .int .i64 x160c_14, .int .i64 0, .int .i64 0, .string (⟨#[]⟩ : ByteArray)]) ?_ 3 _ rfl; (with_reducible repeat (first | refine kN_ ?_ _ | refine kD_ ?_ | refine kA_ ?_ _)); exact BK159.out⟩, ⟨by repeat (first | (with_reducible first | exact HB.out | apply bA_ | apply bN_ | apply b1_ | refine bS_ ?_ GE158.out | refine bS_ ?_ GE159.out) | exact HB.out)⟩⟩
       rw [if_neg c23] at H
       have c23b0 : (t161 == 5) = false := beq_eq_false_iff_ne.mpr c23
       have c23b1 : (t161 != 5) = true := bne_iff_ne.mpr c23
       have H' := As_.mk H
       clear H
       go_wp2
       go_meet
       case rel => exact ⟨_, (0), H', ⟨by have := HJ5.out; have := HJ14.out; first | omega | exact Nat.le_refl _⟩, ⟨by (with_reducible repeat (first | refine kN_ ?_ _ | refine kD_ ?_ | refine kA_ ?_ _)); exact BK158.out⟩, ⟨by (with_reducible repeat (first | refine kN_ ?_ _ | refine kD_ ?_ | refine kA_ ?_ _)); exact BK159.out⟩, ⟨by repeat (first | (with_reducible first | exact HB.out | apply bA_ | apply bN_ | apply b1_ | refine bS_ ?_ GE158.out | refine bS_ ?_ GE159.out) | exact HB.out)⟩⟩
      case rest =>
       clear HC19
       obtain ⟨kq, x160d_18, HA, HJ18, BK158, BK159, HB⟩ := hcut
       cases kq with
       | zero => exact absurd HA.out (by simp [bits_Ins.j2])
       | succ kj18 =>
        have H := HA.out
        clear HA
        simp only [bits_Ins.j2] at H
        replace H := Option.bind_eq_some_iff.mp H
        obtain ⟨t164, A260, H⟩ := H
        replace H : ((isa_Target.f t161).bind fun t165 => (if t165 = true then ((word_Low.f (wrap64 (a0)) t164).bind fun t166 => (bits_Ins.j3 kj18 a0 (wrap64 (a0 / 67108864)) x160b_5 x160c_14 x160d_18 (wrap64 (t166)) (⟨#[]⟩ : ByteArray))) else (if t164 > 0 then ((word_Signed.f a0 t164).bind fun t167 => (bits_Ins.j3 kj18 a0 (wrap64 (a0 / 67108864)) x160b_5 x160c_14 x160d_18 t167 (⟨#[]⟩ : ByteArray))) else (bits_Ins.j3 kj18 a0 (wrap64 (a0 / 67108864)) x160b_5 x160c_14 x160d_18 0 (⟨#[]⟩ : ByteArray))))) = some (r1, r2, r3, r4, r5, r6, r7) := H
        have A26 := As_.mk A260
        clear A260
        replace H := Option.bind_eq_some_iff.mp H
        obtain ⟨t165, A270, H⟩ := H
        replace H : (if t165 = true then ((word_Low.f (wrap64 (a0)) t164).bind fun t166 => (bits_Ins.j3 kj18 a0 (wrap64 (a0 / 67108864)) x160b_5 x160c_14 x160d_18 (wrap64 (t166)) (⟨#[]⟩ : ByteArray))) else (if t164 > 0 then ((word_Signed.f a0 t164).bind fun t167 => (bits_Ins.j3 kj18 a0 (wrap64 (a0 / 67108864)) x160b_5 x160c_14 x160d_18 t167 (⟨#[]⟩ : ByteArray))) else (bits_Ins.j3 kj18 a0 (wrap64 (a0 / 67108864)) x160b_5 x160c_14 x160d_18 0 (⟨#[]⟩ : ByteArray)))) = some (r1, r2, r3, r4, r5, r6, r7) := H
        have A27 := As_.mk A270
        clear A270
        have HC28 := As_.mk H
        clear H
        go_upto_if 54 with (first | ((with_reducible refine gC_ (f := 39) rfl ?_); refine goesL_ (some 52) rfl rfl Try.func39 (by kernel_rfl) rfl #[.int .i64 t161] rfl (by (try simp only [List.map_toArray, List.map_cons, List.map_nil]); first | done | rfl) ?_; (with_reducible refine (isa_Bits.calls kj18 t161 t164 _ A26.out).mono ?_); rintro e w' ⟨rfl, ⟨nd, rfl⟩⟩; refine ⟨_, rfl, ?_⟩) | ((with_reducible refine gC_ (f := 40) rfl ?_); refine goesL_ (some 54) rfl rfl Try.func40 (by kernel_rfl) rfl #[.int .i64 t161] rfl (by (try simp only [List.map_toArray, List.map_cons, List.map_nil]); first | done | rfl) ?_; (with_reducible refine (isa_Target.calls t161 t165 _ A27.out).mono ?_); rintro e w' ⟨rfl, ⟨nd, rfl⟩⟩; refine ⟨_, rfl, ?_⟩))
        (try simp only [Act.put, List.setIfInBounds_toArray, List.set_cons_zero, List.set_cons_succ])
        go_cut [] (fun wc => ∃ (kq : Nat) (x160e_27 : Int), As_ (bits_Ins.j3 kq a0 (wrap64 (a0 / 67108864)) x160b_5 x160c_14 x160d_18 x160e_27 (⟨#[]⟩ : ByteArray) = some (r1, r2, r3, r4, r5, r6, r7)) ∧ As_ (kq ≤ kj18) ∧ As_ (wc.heap[gb158]? = some (.cells #[.int .i64 0, .int .i64 0, .int .i64 0, .int .i64 0, .int .i64 0, .string (⟨#[]⟩ : ByteArray)] 35 (0, 0))) ∧ As_ (wc.heap[gb159]? = some (.cells #[.int .i64 (wrap64 (a0 / 67108864)), .int .i64 x160b_5, .int .i64 x160c_14, .int .i64 x160d_18, .int .i64 x160e_27, .string (⟨#[]⟩ : ByteArray)] 35 (0, 0))) ∧ As_ (Below w.heap.size w wc))
        case first =>
         have H := HC28.out
         clear HC28
         by_cases c29 : t165 = true
         ·subst c29
          have H1 : ((word_Low.f (wrap64 (a0)) t164).bind fun t166 => (bits_Ins.j3 kj18 a0 (wrap64 (a0 / 67108864)) x160b_5 x160c_14 x160d_18 (wrap64 (t166)) (⟨#[]⟩ : ByteArray))) = some (r1, r2, r3, r4, r5, r6, r7) := by rw [if_pos rfl] at H; exact H
          clear H
          have H := H1
          clear H1
          replace H := Option.bind_eq_some_iff.mp H
          obtain ⟨t166, A300, H⟩ := H
          replace H : (bits_Ins.j3 kj18 a0 (wrap64 (a0 / 67108864)) x160b_5 x160c_14 x160d_18 (wrap64 (t166)) (⟨#[]⟩ : ByteArray)) = some (r1, r2, r3, r4, r5, r6, r7) := H
          have A30 := As_.mk A300
          clear A300
          have H' := As_.mk H
          clear H
          go_wp2_with (first | ((with_reducible refine gC_ (f := 41) rfl ?_); refine goesL_ (some 58) rfl rfl Try.func41 (by kernel_rfl) rfl #[.int .i64 (wrap64 (a0)), .int .i64 t164] rfl (by (try simp only [List.map_toArray, List.map_cons, List.map_nil]); first | done | rfl) ?_; (with_reducible refine (word_Low.calls (wrap64 (a0)) t164 t166 _ A30.out).mono ?_); rintro e w' ⟨rfl, ⟨nd, rfl⟩⟩; refine ⟨_, rfl, ?_⟩; (try (rw [drewN_self wc]; generalize hq_ : World.drewN wc _ = wc; have n0_ : As_ (wc.heap[gb158]? = some (.cells #[.int .i64 0, .int .i64 0, .int .i64 0, .int .i64 0, .int .i64 0, .string (⟨#[]⟩ : ByteArray)] 35 (0, 0))) := ⟨by rw [← hq_]; exact (by (with_reducible repeat (first | refine kN_ ?_ _ | refine kD_ ?_ | refine kA_ ?_ _)); exact BK158.out)⟩; have n1_ : As_ (wc.heap[gb159]? = some (.cells #[.int .i64 (wrap64 (a0 / 67108864)), .int .i64 x160b_5, .int .i64 x160c_14, .int .i64 x160d_18, .int .i64 0, .string (⟨#[]⟩ : ByteArray)] 35 (0, 0))) := ⟨by rw [← hq_]; exact (by (with_reducible repeat (first | refine kN_ ?_ _ | refine kD_ ?_ | refine kA_ ?_ _)); exact BK159.out)⟩; have n2_ : As_ (Below w.heap.size w wc) := ⟨by rw [← hq_]; exact (by repeat (first | (with_reducible first | exact HB.out | apply bA_ | apply bN_ | apply b1_ | refine bS_ ?_ GE158.out | refine bS_ ?_ GE159.out) | exact HB.out))⟩; clear BK158 BK159 HB hq_; have BK158 := n0_; have BK159 := n1_; have HB := n2_; clear n0_ n1_ n2_)); have hnb31 := NB159_158.out; have hnc31 := NB158_159.out; have hcz32_0 : wc.cell? ⟨gb159, 0, none⟩ = some (.int .i64 (wrap64 (a0 / 67108864))) := (bC_ BK159.out 0).trans rfl; have hcz32_1 : wc.cell? ⟨gb159, 1, none⟩ = some (.int .i64 x160b_5) := (bC_ BK159.out 1).trans rfl; have hcz32_2 : wc.cell? ⟨gb159, 2, none⟩ = some (.int .i64 x160c_14) := (bC_ BK159.out 2).trans rfl; have hcz32_3 : wc.cell? ⟨gb159, 3, none⟩ = some (.int .i64 x160d_18) := (bC_ BK159.out 3).trans rfl; have hcz32_4 : wc.cell? ⟨gb159, 4, none⟩ = some (.int .i64 0) := (bC_ BK159.out 4).trans rfl; have hcz32_5 : wc.cell? ⟨gb159, 5, none⟩ = some (.string (⟨#[]⟩ : ByteArray)) := (bC_ BK159.out 5).trans rfl; have hfz32_0 := bZ_ BK159.out 0; have hfz32_1 := bZ_ BK159.out 1; have hfz32_2 := bZ_ BK159.out 2; have hfz32_3 := bZ_ BK159.out 3; have hfz32_4 := bZ_ BK159.out 4; have hfz32_5 := bZ_ BK159.out 5))
          go_meet
          case rel => exact ⟨_, (wrap64 (t166)), H', ⟨by have := HJ5.out; have := HJ14.out; have := HJ18.out; first | omega | exact Nat.le_refl _⟩, ⟨by (with_reducible repeat (first | refine kN_ ?_ _ | refine kD_ ?_ | refine kA_ ?_ _)); refine blk_far ?_ NB158_159.out _; (with_reducible repeat (first | refine kN_ ?_ _ | refine kD_ ?_ | refine kA_ ?_ _)); exact BK158.out⟩, ⟨by (with_reducible repeat (first | refine kN_ ?_ _ | refine kD_ ?_ | refine kA_ ?_ _)); refine blk_put (cs := #[.int .i64 (wrap64 (a0 / 67108864)), .int .i64 x160b_5, .int .i64 x160c_14, .int .i64 x160d_18, .int .i64 0, .string (⟨#[]⟩ : ByteArray)]) ?_ 4 _ rfl; (with_reducible repeat (first | refine kN_ ?_ _ | refine kD_ ?_ | refine kA_ ?_ _)); exact BK159.out⟩, ⟨by repeat (first | (with_reducible first | exact HB.out | apply bA_ | apply bN_ | apply b1_ | refine bS_ ?_ GE158.out | refine bS_ ?_ GE159.out) | exact HB.out)⟩⟩
         replace c29 := Bool.eq_false_iff.mpr c29
         subst c29
         have H1 : (if t164 > 0 then ((word_Signed.f a0 t164).bind fun t167 => (bits_Ins.j3 kj18 a0 (wrap64 (a0 / 67108864)) x160b_5 x160c_14 x160d_18 t167 (⟨#[]⟩ : ByteArray))) else (bits_Ins.j3 kj18 a0 (wrap64 (a0 / 67108864)) x160b_5 x160c_14 x160d_18 0 (⟨#[]⟩ : ByteArray))) = some (r1, r2, r3, r4, r5, r6, r7) := by rw [if_neg (show ¬ (false = true) by decide)] at H; exact H
         clear H
         have H := H1
         clear H1
         by_cases c33 : t164 > 0
         ·rw [if_pos c33] at H
          have c33b0 : decide (0 < t164) = true := decide_eq_true c33
          clear c33
          (first | rw [c33b0] | (simp only [i64_w, i32_w]; rw [c33b0]) | skip)
          replace H := Option.bind_eq_some_iff.mp H
          obtain ⟨t167, A340, H⟩ := H
          replace H : (bits_Ins.j3 kj18 a0 (wrap64 (a0 / 67108864)) x160b_5 x160c_14 x160d_18 t167 (⟨#[]⟩ : ByteArray)) = some (r1, r2, r3, r4, r5, r6, r7) := H
          have A34 := As_.mk A340
          clear A340
          have H' := As_.mk H
          clear H
          go_wp2_with (first | ((with_reducible refine gC_ (f := 42) rfl ?_); refine goesL_ (some 65) rfl rfl Try.func42 (by kernel_rfl) rfl #[.int .u32 a0, .int .i64 t164] rfl (by (try simp only [List.map_toArray, List.map_cons, List.map_nil]); first | done | rfl) ?_; (with_reducible refine (word_Signed.calls a0 t164 t167 _ A34.out).mono ?_); rintro e w' ⟨rfl, ⟨nd, rfl⟩⟩; refine ⟨_, rfl, ?_⟩; (try (rw [drewN_self wc]; generalize hq_ : World.drewN wc _ = wc; have n0_ : As_ (wc.heap[gb158]? = some (.cells #[.int .i64 0, .int .i64 0, .int .i64 0, .int .i64 0, .int .i64 0, .string (⟨#[]⟩ : ByteArray)] 35 (0, 0))) := ⟨by rw [← hq_]; exact (by (with_reducible repeat (first | refine kN_ ?_ _ | refine kD_ ?_ | refine kA_ ?_ _)); exact BK158.out)⟩; have n1_ : As_ (wc.heap[gb159]? = some (.cells #[.int .i64 (wrap64 (a0 / 67108864)), .int .i64 x160b_5, .int .i64 x160c_14, .int .i64 x160d_18, .int .i64 0, .string (⟨#[]⟩ : ByteArray)] 35 (0, 0))) := ⟨by rw [← hq_]; exact (by (with_reducible repeat (first | refine kN_ ?_ _ | refine kD_ ?_ | refine kA_ ?_ _)); exact BK159.out)⟩; have n2_ : As_ (Below w.heap.size w wc) := ⟨by rw [← hq_]; exact (by repeat (first | (with_reducible first | exact HB.out | apply bA_ | apply bN_ | apply b1_ | refine bS_ ?_ GE158.out | refine bS_ ?_ GE159.out) | exact HB.out))⟩; clear BK158 BK159 HB hq_; have BK158 := n0_; have BK159 := n1_; have HB := n2_; clear n0_ n1_ n2_)); have hnb35 := NB159_158.out; have hnc35 := NB158_159.out; have hcz36_0 : wc.cell? ⟨gb159, 0, none⟩ = some (.int .i64 (wrap64 (a0 / 67108864))) := (bC_ BK159.out 0).trans rfl; have hcz36_1 : wc.cell? ⟨gb159, 1, none⟩ = some (.int .i64 x160b_5) := (bC_ BK159.out 1).trans rfl; have hcz36_2 : wc.cell? ⟨gb159, 2, none⟩ = some (.int .i64 x160c_14) := (bC_ BK159.out 2).trans rfl; have hcz36_3 : wc.cell? ⟨gb159, 3, none⟩ = some (.int .i64 x160d_18) := (bC_ BK159.out 3).trans rfl; have hcz36_4 : wc.cell? ⟨gb159, 4, none⟩ = some (.int .i64 0) := (bC_ BK159.out 4).trans rfl; have hcz36_5 : wc.cell? ⟨gb159, 5, none⟩ = some (.string (⟨#[]⟩ : ByteArray)) := (bC_ BK159.out 5).trans rfl; have hfz36_0 := bZ_ BK159.out 0; have hfz36_1 := bZ_ BK159.out 1; have hfz36_2 := bZ_ BK159.out 2; have hfz36_3 := bZ_ BK159.out 3; have hfz36_4 := bZ_ BK159.out 4; have hfz36_5 := bZ_ BK159.out 5))
          go_meet
          case rel => exact ⟨_, (t167), H', ⟨by have := HJ5.out; have := HJ14.out; have := HJ18.out; first | omega | exact Nat.le_refl _⟩, ⟨by (with_reducible repeat (first | refine kN_ ?_ _ | refine kD_ ?_ | refine kA_ ?_ _)); refine blk_far ?_ NB158_159.out _; (with_reducible repeat (first | refine kN_ ?_ _ | refine kD_ ?_ | refine kA_ ?_ _)); exact BK158.out⟩, ⟨by (with_reducible repeat (first | refine kN_ ?_ _ | refine kD_ ?_ | refine kA_ ?_ _)); refine blk_put (cs := #[.int .i64 (wrap64 (a0 / 67108864)), .int .i64 x160b_5, .int .i64 x160c_14, .int .i64 x160d_18, .int .i64 0, .string (⟨#[]⟩ : ByteArray)]) ?_ 4 _ rfl; (with_reducible repeat (first | refine kN_ ?_ _ | refine kD_ ?_ | refine kA_ ?_ _)); exact BK159.out⟩, ⟨by repeat (first | (with_reducible first | exact HB.out | apply bA_ | apply bN_ | apply b1_ | refine bS_ ?_ GE158.out | refine bS_ ?_ GE159.out) | exact HB.out)⟩⟩
         rw [if_neg c33] at H
         have c33b0 : decide (0 < t164) = false := decide_eq_false c33
         clear c33
         (first | rw [c33b0] | (simp only [i64_w, i32_w]; rw [c33b0]) | skip)
         have H' := As_.mk H
         clear H
         go_wp2
         go_meet
         case rel => exact ⟨_, (0), H', ⟨by have := HJ5.out; have := HJ14.out; have := HJ18.out; first | omega | exact Nat.le_refl _⟩, ⟨by (with_reducible repeat (first | refine kN_ ?_ _ | refine kD_ ?_ | refine kA_ ?_ _)); exact BK158.out⟩, ⟨by (with_reducible repeat (first | refine kN_ ?_ _ | refine kD_ ?_ | refine kA_ ?_ _)); exact BK159.out⟩, ⟨by repeat (first | (with_reducible first | exact HB.out | apply bA_ | apply bN_ | apply b1_ | refine bS_ ?_ GE158.out | refine bS_ ?_ GE159.out) | exact HB.out)⟩⟩
        case rest =>
         clear HC28
         obtain ⟨kq, x160e_27, HA, HJ27, BK158, BK159, HB⟩ := hcut
         cases kq with
         | zero => exact absurd HA.out (by simp [bits_Ins.j3])
         | succ kj27 =>
          have H := HA.out
          clear HA
          simp only [bits_Ins.j3] at H
          replace H := Option.bind_eq_some_iff.mp H
          obtain ⟨t168, A370, H⟩ := H
          replace H : (if t168 = true then ((bits_Pack.f kj27 (wrap64 (a0 / 67108864)) x160b_5 x160c_14 x160d_18 x160e_27 (⟨#[]⟩ : ByteArray)).bind fun t169 => (if t169 = a0 then (some ((wrap64 (a0 / 67108864)), x160b_5, x160c_14, x160d_18, x160e_27, (⟨#[]⟩ : ByteArray), 0)) else (some (0, 0, 0, 0, 0, (⟨#[]⟩ : ByteArray), 8)))) else (some (0, 0, 0, 0, 0, (⟨#[]⟩ : ByteArray), 8))) = some (r1, r2, r3, r4, r5, r6, r7) := H
          have A37 := As_.mk A370
          clear A370
          by_cases c38 : t168 = true
          ·subst c38
           have H1 : ((bits_Pack.f kj27 (wrap64 (a0 / 67108864)) x160b_5 x160c_14 x160d_18 x160e_27 (⟨#[]⟩ : ByteArray)).bind fun t169 => (if t169 = a0 then (some ((wrap64 (a0 / 67108864)), x160b_5, x160c_14, x160d_18, x160e_27, (⟨#[]⟩ : ByteArray), 0)) else (some (0, 0, 0, 0, 0, (⟨#[]⟩ : ByteArray), 8)))) = some (r1, r2, r3, r4, r5, r6, r7) := by rw [if_pos rfl] at H; exact H
           clear H
           have H := H1
           clear H1
           replace H := Option.bind_eq_some_iff.mp H
           obtain ⟨t169, A390, H⟩ := H
           replace H : (if t169 = a0 then (some ((wrap64 (a0 / 67108864)), x160b_5, x160c_14, x160d_18, x160e_27, (⟨#[]⟩ : ByteArray), 0)) else (some (0, 0, 0, 0, 0, (⟨#[]⟩ : ByteArray), 8))) = some (r1, r2, r3, r4, r5, r6, r7) := H
           have A39 := As_.mk A390
           clear A390
           by_cases c40 : t169 = a0
           ·rw [if_pos c40] at H
            have c40b0 : (t169 == a0) = true := beq_iff_eq.mpr c40
            have c40b1 : (t169 != a0) = false := bne_eq_false_iff_eq.mpr c40
            clear c40
            simp only [Option.some.injEq, Prod.mk.injEq] at H
            obtain ⟨rfl, rfl, rfl, rfl, rfl, rfl, rfl⟩ := H
            have hnb41 := NB159_158.out
            have hnc41 := NB158_159.out
            have hcz42_0 : wc.cell? ⟨gb159, 0, none⟩ = some (.int .i64 (wrap64 (a0 / 67108864))) := (bC_ BK159.out 0).trans rfl
            have hcz42_1 : wc.cell? ⟨gb159, 1, none⟩ = some (.int .i64 x160b_5) := (bC_ BK159.out 1).trans rfl
            have hcz42_2 : wc.cell? ⟨gb159, 2, none⟩ = some (.int .i64 x160c_14) := (bC_ BK159.out 2).trans rfl
            have hcz42_3 : wc.cell? ⟨gb159, 3, none⟩ = some (.int .i64 x160d_18) := (bC_ BK159.out 3).trans rfl
            have hcz42_4 : wc.cell? ⟨gb159, 4, none⟩ = some (.int .i64 x160e_27) := (bC_ BK159.out 4).trans rfl
            have hcz42_5 : wc.cell? ⟨gb159, 5, none⟩ = some (.string (⟨#[]⟩ : ByteArray)) := (bC_ BK159.out 5).trans rfl
            have hfz42_0 := bZ_ BK159.out 0
            have hfz42_1 := bZ_ BK159.out 1
            have hfz42_2 := bZ_ BK159.out 2
            have hfz42_3 := bZ_ BK159.out 3
            have hfz42_4 := bZ_ BK159.out 4
            have hfz42_5 := bZ_ BK159.out 5
            go_wp2_with (first | ((with_reducible refine gC_ (f := 28) rfl ?_); refine goesL_ (some 68) rfl rfl Try.func28 (by kernel_rfl) rfl #[.agg #[.int .i64 (wrap64 (a0 / 67108864)), .int .i64 x160b_5, .int .i64 x160c_14, .int .i64 x160d_18, .int .i64 x160e_27, .string (⟨#[]⟩ : ByteArray)]] rfl (by (try simp only [List.map_toArray, List.map_cons, List.map_nil]); first | done | rfl) ?_; (with_reducible refine (isa_IsIns.calls kj27 (wrap64 (a0 / 67108864)) x160b_5 x160c_14 x160d_18 x160e_27 (⟨#[]⟩ : ByteArray) true _ A37.out).mono ?_); rintro e w43 ⟨rfl, hb⟩; refine ⟨_, rfl, ?_⟩; have n0_ := As_.mk (kB_ (g := gb158) (o := .cells #[.int .i64 0, .int .i64 0, .int .i64 0, .int .i64 0, .int .i64 0, .string (⟨#[]⟩ : ByteArray)] 35 (0, 0)) (by (with_reducible repeat (first | refine kN_ ?_ _ | refine kD_ ?_ | refine kA_ ?_ _)); exact BK158.out) hb); have n1_ := As_.mk (kB_ (g := gb159) (o := .cells #[.int .i64 (wrap64 (a0 / 67108864)), .int .i64 x160b_5, .int .i64 x160c_14, .int .i64 x160d_18, .int .i64 x160e_27, .string (⟨#[]⟩ : ByteArray)] 35 (0, 0)) (by (with_reducible repeat (first | refine kN_ ?_ _ | refine kD_ ?_ | refine kA_ ?_ _)); exact BK159.out) hb); have n2_ := As_.mk (bT_ (by repeat (first | (with_reducible first | exact HB.out | apply bA_ | apply bN_ | apply b1_ | refine bS_ ?_ GE158.out | refine bS_ ?_ GE159.out) | exact HB.out)) hb); clear BK158; clear BK159; clear HB; have BK158 := n0_; have BK159 := n1_; have HB := n2_; clear n0_ n1_ n2_; have hcz44_0 : w43.cell? ⟨gb159, 0, none⟩ = some (.int .i64 (wrap64 (a0 / 67108864))) := (bC_ BK159.out 0).trans rfl; have hcz44_1 : w43.cell? ⟨gb159, 1, none⟩ = some (.int .i64 x160b_5) := (bC_ BK159.out 1).trans rfl; have hcz44_2 : w43.cell? ⟨gb159, 2, none⟩ = some (.int .i64 x160c_14) := (bC_ BK159.out 2).trans rfl; have hcz44_3 : w43.cell? ⟨gb159, 3, none⟩ = some (.int .i64 x160d_18) := (bC_ BK159.out 3).trans rfl; have hcz44_4 : w43.cell? ⟨gb159, 4, none⟩ = some (.int .i64 x160e_27) := (bC_ BK159.out 4).trans rfl; have hcz44_5 : w43.cell? ⟨gb159, 5, none⟩ = some (.string (⟨#[]⟩ : ByteArray)) := (bC_ BK159.out 5).trans rfl; have hfz44_0 := bZ_ BK159.out 0; have hfz44_1 := bZ_ BK159.out 1; have hfz44_2 := bZ_ BK159.out 2; have hfz44_3 := bZ_ BK159.out 3; have hfz44_4 := bZ_ BK159.out 4; have hfz44_5 := bZ_ BK159.out 5) | (go_at_call 29; (with_reducible refine (bits_Pack.calls kj27 (wrap64 (a0 / 67108864)) x160b_5 x160c_14 x160d_18 x160e_27 (⟨#[]⟩ : ByteArray) t169 _ A39.out).mono ?_); rintro e w45 ⟨rfl, hb⟩; have n0_ := As_.mk (kB_ (g := gb158) (o := .cells #[.int .i64 0, .int .i64 0, .int .i64 0, .int .i64 0, .int .i64 0, .string (⟨#[]⟩ : ByteArray)] 35 (0, 0)) (by (with_reducible repeat (first | refine kN_ ?_ _ | refine kD_ ?_ | refine kA_ ?_ _)); exact BK158.out) hb); have n1_ := As_.mk (kB_ (g := gb159) (o := .cells #[.int .i64 (wrap64 (a0 / 67108864)), .int .i64 x160b_5, .int .i64 x160c_14, .int .i64 x160d_18, .int .i64 x160e_27, .string (⟨#[]⟩ : ByteArray)] 35 (0, 0)) (by (with_reducible repeat (first | refine kN_ ?_ _ | refine kD_ ?_ | refine kA_ ?_ _)); exact BK159.out) hb); have n2_ := As_.mk (bT_ (by repeat (first | (with_reducible first | exact HB.out | apply bA_ | apply bN_ | apply b1_ | refine bS_ ?_ GE158.out | refine bS_ ?_ GE159.out) | exact HB.out)) hb); clear BK158; clear BK159; clear HB; have BK158 := n0_; have BK159 := n1_; have HB := n2_; clear n0_ n1_ n2_; have hcz46_0 : w45.cell? ⟨gb159, 0, none⟩ = some (.int .i64 (wrap64 (a0 / 67108864))) := (bC_ BK159.out 0).trans rfl; have hcz46_1 : w45.cell? ⟨gb159, 1, none⟩ = some (.int .i64 x160b_5) := (bC_ BK159.out 1).trans rfl; have hcz46_2 : w45.cell? ⟨gb159, 2, none⟩ = some (.int .i64 x160c_14) := (bC_ BK159.out 2).trans rfl; have hcz46_3 : w45.cell? ⟨gb159, 3, none⟩ = some (.int .i64 x160d_18) := (bC_ BK159.out 3).trans rfl; have hcz46_4 : w45.cell? ⟨gb159, 4, none⟩ = some (.int .i64 x160e_27) := (bC_ BK159.out 4).trans rfl; have hcz46_5 : w45.cell? ⟨gb159, 5, none⟩ = some (.string (⟨#[]⟩ : ByteArray)) := (bC_ BK159.out 5).trans rfl; have hfz46_0 := bZ_ BK159.out 0; have hfz46_1 := bZ_ BK159.out 1; have hfz46_2 := bZ_ BK159.out 2; have hfz46_3 := bZ_ BK159.out 3; have hfz46_4 := bZ_ BK159.out 4; have hfz46_5 := bZ_ BK159.out 5; have hcz47_0 : w45.cell? ⟨gb158, 0, none⟩ = some (.int .i64 0) := (bC_ BK158.out 0).trans rfl; have hcz47_1 : w45.cell? ⟨gb158, 1, none⟩ = some (.int .i64 0) := (bC_ BK158.out 1).trans rfl; have hcz47_2 : w45.cell? ⟨gb158, 2, none⟩ = some (.int .i64 0) := (bC_ BK158.out 2).trans rfl; have hcz47_3 : w45.cell? ⟨gb158, 3, none⟩ = some (.int .i64 0) := (bC_ BK158.out 3).trans rfl; have hcz47_4 : w45.cell? ⟨gb158, 4, none⟩ = some (.int .i64 0) := (bC_ BK158.out 4).trans rfl; have hcz47_5 : w45.cell? ⟨gb158, 5, none⟩ = some (.string (⟨#[]⟩ : ByteArray)) := (bC_ BK158.out 5).trans rfl; have hfz47_0 := bZ_ BK158.out 0; have hfz47_1 := bZ_ BK158.out 1; have hfz47_2 := bZ_ BK158.out 2; have hfz47_3 := bZ_ BK158.out 3; have hfz47_4 := bZ_ BK158.out 4; have hfz47_5 := bZ_ BK158.out 5))
            refine bodyPost_ret (results_ct rfl _ _ gb158 35 #[.int .i64 (wrap64 (a0 / 67108864)), .int .i64 x160b_5, .int .i64 x160c_14, .int .i64 x160d_18, .int .i64 x160e_27, .string (⟨#[]⟩ : ByteArray)] (0, 0) _ rfl (by (with_reducible repeat (first | refine kN_ ?_ _ | refine kD_ ?_ | refine kA_ ?_ _)); refine blk_put (cs := #[.int .i64 (wrap64 (a0 / 67108864)), .int .i64 x160b_5, .int .i64 x160c_14, .int .i64 x160d_18, .int .i64 x160e_27, .string (⟨#[]⟩ : ByteArray)]) ?_ 5 _ rfl; (with_reducible repeat (first | refine kN_ ?_ _ | refine kD_ ?_ | refine kA_ ?_ _)); refine blk_put (cs := #[.int .i64 (wrap64 (a0 / 67108864)), .int .i64 x160b_5, .int .i64 x160c_14, .int .i64 x160d_18, .int .i64 0, .string (⟨#[]⟩ : ByteArray)]) ?_ 4 _ rfl; (with_reducible repeat (first | refine kN_ ?_ _ | refine kD_ ?_ | refine kA_ ?_ _)); refine blk_put (cs := #[.int .i64 (wrap64 (a0 / 67108864)), .int .i64 x160b_5, .int .i64 x160c_14, .int .i64 0, .int .i64 0, .string (⟨#[]⟩ : ByteArray)]) ?_ 3 _ rfl; (with_reducible repeat (first | refine kN_ ?_ _ | refine kD_ ?_ | refine kA_ ?_ _)); refine blk_put (cs := #[.int .i64 (wrap64 (a0 / 67108864)), .int .i64 x160b_5, .int .i64 0, .int .i64 0, .int .i64 0, .string (⟨#[]⟩ : ByteArray)]) ?_ 2 _ rfl; (with_reducible repeat (first | refine kN_ ?_ _ | refine kD_ ?_ | refine kA_ ?_ _)); refine blk_put (cs := #[.int .i64 (wrap64 (a0 / 67108864)), .int .i64 0, .int .i64 0, .int .i64 0, .int .i64 0, .string (⟨#[]⟩ : ByteArray)]) ?_ 1 _ rfl; (with_reducible repeat (first | refine kN_ ?_ _ | refine kD_ ?_ | refine kA_ ?_ _)); refine blk_put (cs := #[.int .i64 0, .int .i64 0, .int .i64 0, .int .i64 0, .int .i64 0, .string (⟨#[]⟩ : ByteArray)]) ?_ 0 _ rfl; (with_reducible repeat (first | refine kN_ ?_ _ | refine kD_ ?_ | refine kA_ ?_ _)); exact BK158.out) Try.underlying35 rfl (by kernel_rfl)) rfl ?_
            exact ⟨by first | rfl | (simp [eN_, eS_] <;> rfl) | (simp [*, eN_, eS_] <;> rfl), by repeat (first | (with_reducible first | exact HB.out | apply bA_ | apply bN_ | apply b1_ | refine bS_ ?_ GE158.out | refine bS_ ?_ GE159.out) | exact HB.out)⟩
           rw [if_neg c40] at H
           have c40b0 : (t169 == a0) = false := beq_eq_false_iff_ne.mpr c40
           have c40b1 : (t169 != a0) = true := bne_iff_ne.mpr c40
           simp only [Option.some.injEq, Prod.mk.injEq] at H
           obtain ⟨rfl, rfl, rfl, rfl, rfl, rfl, rfl⟩ := H
           have hnb48 := NB159_158.out
           have hnc48 := NB158_159.out
           have hcz49_0 : wc.cell? ⟨gb159, 0, none⟩ = some (.int .i64 (wrap64 (a0 / 67108864))) := (bC_ BK159.out 0).trans rfl
           have hcz49_1 : wc.cell? ⟨gb159, 1, none⟩ = some (.int .i64 x160b_5) := (bC_ BK159.out 1).trans rfl
           have hcz49_2 : wc.cell? ⟨gb159, 2, none⟩ = some (.int .i64 x160c_14) := (bC_ BK159.out 2).trans rfl
           have hcz49_3 : wc.cell? ⟨gb159, 3, none⟩ = some (.int .i64 x160d_18) := (bC_ BK159.out 3).trans rfl
           have hcz49_4 : wc.cell? ⟨gb159, 4, none⟩ = some (.int .i64 x160e_27) := (bC_ BK159.out 4).trans rfl
           have hcz49_5 : wc.cell? ⟨gb159, 5, none⟩ = some (.string (⟨#[]⟩ : ByteArray)) := (bC_ BK159.out 5).trans rfl
           have hfz49_0 := bZ_ BK159.out 0
           have hfz49_1 := bZ_ BK159.out 1
           have hfz49_2 := bZ_ BK159.out 2
           have hfz49_3 := bZ_ BK159.out 3
           have hfz49_4 := bZ_ BK159.out 4
           have hfz49_5 := bZ_ BK159.out 5
           go_wp2_with (first | ((with_reducible refine gC_ (f := 28) rfl ?_); refine goesL_ (some 68) rfl rfl Try.func28 (by kernel_rfl) rfl #[.agg #[.int .i64 (wrap64 (a0 / 67108864)), .int .i64 x160b_5, .int .i64 x160c_14, .int .i64 x160d_18, .int .i64 x160e_27, .string (⟨#[]⟩ : ByteArray)]] rfl (by (try simp only [List.map_toArray, List.map_cons, List.map_nil]); first | done | rfl) ?_; (with_reducible refine (isa_IsIns.calls kj27 (wrap64 (a0 / 67108864)) x160b_5 x160c_14 x160d_18 x160e_27 (⟨#[]⟩ : ByteArray) true _ A37.out).mono ?_); rintro e w50 ⟨rfl, hb⟩; refine ⟨_, rfl, ?_⟩; have n0_ := As_.mk (kB_ (g := gb158) (o := .cells #[.int .i64 0, .int .i64 0, .int .i64 0, .int .i64 0, .int .i64 0, .string (⟨#[]⟩ : ByteArray)] 35 (0, 0)) (by (with_reducible repeat (first | refine kN_ ?_ _ | refine kD_ ?_ | refine kA_ ?_ _)); exact BK158.out) hb); have n1_ := As_.mk (kB_ (g := gb159) (o := .cells #[.int .i64 (wrap64 (a0 / 67108864)), .int .i64 x160b_5, .int .i64 x160c_14, .int .i64 x160d_18, .int .i64 x160e_27, .string (⟨#[]⟩ : ByteArray)] 35 (0, 0)) (by (with_reducible repeat (first | refine kN_ ?_ _ | refine kD_ ?_ | refine kA_ ?_ _)); exact BK159.out) hb); have n2_ := As_.mk (bT_ (by repeat (first | (with_reducible first | exact HB.out | apply bA_ | apply bN_ | apply b1_ | refine bS_ ?_ GE158.out | refine bS_ ?_ GE159.out) | exact HB.out)) hb); clear BK158; clear BK159; clear HB; have BK158 := n0_; have BK159 := n1_; have HB := n2_; clear n0_ n1_ n2_; have hcz51_0 : w50.cell? ⟨gb159, 0, none⟩ = some (.int .i64 (wrap64 (a0 / 67108864))) := (bC_ BK159.out 0).trans rfl; have hcz51_1 : w50.cell? ⟨gb159, 1, none⟩ = some (.int .i64 x160b_5) := (bC_ BK159.out 1).trans rfl; have hcz51_2 : w50.cell? ⟨gb159, 2, none⟩ = some (.int .i64 x160c_14) := (bC_ BK159.out 2).trans rfl; have hcz51_3 : w50.cell? ⟨gb159, 3, none⟩ = some (.int .i64 x160d_18) := (bC_ BK159.out 3).trans rfl; have hcz51_4 : w50.cell? ⟨gb159, 4, none⟩ = some (.int .i64 x160e_27) := (bC_ BK159.out 4).trans rfl; have hcz51_5 : w50.cell? ⟨gb159, 5, none⟩ = some (.string (⟨#[]⟩ : ByteArray)) := (bC_ BK159.out 5).trans rfl; have hfz51_0 := bZ_ BK159.out 0; have hfz51_1 := bZ_ BK159.out 1; have hfz51_2 := bZ_ BK159.out 2; have hfz51_3 := bZ_ BK159.out 3; have hfz51_4 := bZ_ BK159.out 4; have hfz51_5 := bZ_ BK159.out 5) | (go_at_call 29; (with_reducible refine (bits_Pack.calls kj27 (wrap64 (a0 / 67108864)) x160b_5 x160c_14 x160d_18 x160e_27 (⟨#[]⟩ : ByteArray) t169 _ A39.out).mono ?_); rintro e w52 ⟨rfl, hb⟩; have n0_ := As_.mk (kB_ (g := gb158) (o := .cells #[.int .i64 0, .int .i64 0, .int .i64 0, .int .i64 0, .int .i64 0, .string (⟨#[]⟩ : ByteArray)] 35 (0, 0)) (by (with_reducible repeat (first | refine kN_ ?_ _ | refine kD_ ?_ | refine kA_ ?_ _)); exact BK158.out) hb); have n1_ := As_.mk (kB_ (g := gb159) (o := .cells #[.int .i64 (wrap64 (a0 / 67108864)), .int .i64 x160b_5, .int .i64 x160c_14, .int .i64 x160d_18, .int .i64 x160e_27, .string (⟨#[]⟩ : ByteArray)] 35 (0, 0)) (by (with_reducible repeat (first | refine kN_ ?_ _ | refine kD_ ?_ | refine kA_ ?_ _)); exact BK159.out) hb); have n2_ := As_.mk (bT_ (by repeat (first | (with_reducible first | exact HB.out | apply bA_ | apply bN_ | apply b1_ | refine bS_ ?_ GE158.out | refine bS_ ?_ GE159.out) | exact HB.out)) hb); clear BK158; clear BK159; clear HB; have BK158 := n0_; have BK159 := n1_; have HB := n2_; clear n0_ n1_ n2_; have hcz53_0 : w52.cell? ⟨gb158, 0, none⟩ = some (.int .i64 0) := (bC_ BK158.out 0).trans rfl; have hcz53_1 : w52.cell? ⟨gb158, 1, none⟩ = some (.int .i64 0) := (bC_ BK158.out 1).trans rfl; have hcz53_2 : w52.cell? ⟨gb158, 2, none⟩ = some (.int .i64 0) := (bC_ BK158.out 2).trans rfl; have hcz53_3 : w52.cell? ⟨gb158, 3, none⟩ = some (.int .i64 0) := (bC_ BK158.out 3).trans rfl; have hcz53_4 : w52.cell? ⟨gb158, 4, none⟩ = some (.int .i64 0) := (bC_ BK158.out 4).trans rfl; have hcz53_5 : w52.cell? ⟨gb158, 5, none⟩ = some (.string (⟨#[]⟩ : ByteArray)) := (bC_ BK158.out 5).trans rfl; have hfz53_0 := bZ_ BK158.out 0; have hfz53_1 := bZ_ BK158.out 1; have hfz53_2 := bZ_ BK158.out 2; have hfz53_3 := bZ_ BK158.out 3; have hfz53_4 := bZ_ BK158.out 4; have hfz53_5 := bZ_ BK158.out 5))
           refine bodyPost_ret (results_ct rfl _ _ gb158 35 #[.int .i64 0, .int .i64 0, .int .i64 0, .int .i64 0, .int .i64 0, .string (⟨#[]⟩ : ByteArray)] (0, 0) _ rfl (by (with_reducible repeat (first | refine kN_ ?_ _ | refine kD_ ?_ | refine kA_ ?_ _)); refine blk_put (cs := #[.int .i64 0, .int .i64 0, .int .i64 0, .int .i64 0, .int .i64 0, .string (⟨#[]⟩ : ByteArray)]) ?_ 5 _ rfl; (with_reducible repeat (first | refine kN_ ?_ _ | refine kD_ ?_ | refine kA_ ?_ _)); refine blk_put (cs := #[.int .i64 0, .int .i64 0, .int .i64 0, .int .i64 0, .int .i64 0, .string (⟨#[]⟩ : ByteArray)]) ?_ 4 _ rfl; (with_reducible repeat (first | refine kN_ ?_ _ | refine kD_ ?_ | refine kA_ ?_ _)); refine blk_put (cs := #[.int .i64 0, .int .i64 0, .int .i64 0, .int .i64 0, .int .i64 0, .string (⟨#[]⟩ : ByteArray)]) ?_ 3 _ rfl; (with_reducible repeat (first | refine kN_ ?_ _ | refine kD_ ?_ | refine kA_ ?_ _)); refine blk_put (cs := #[.int .i64 0, .int .i64 0, .int .i64 0, .int .i64 0, .int .i64 0, .string (⟨#[]⟩ : ByteArray)]) ?_ 2 _ rfl; (with_reducible repeat (first | refine kN_ ?_ _ | refine kD_ ?_ | refine kA_ ?_ _)); refine blk_put (cs := #[.int .i64 0, .int .i64 0, .int .i64 0, .int .i64 0, .int .i64 0, .string (⟨#[]⟩ : ByteArray)]) ?_ 1 _ rfl; (with_reducible repeat (first | refine kN_ ?_ _ | refine kD_ ?_ | refine kA_ ?_ _)); refine blk_put (cs := #[.int .i64 0, .int .i64 0, .int .i64 0, .int .i64 0, .int .i64 0, .string (⟨#[]⟩ : ByteArray)]) ?_ 0 _ rfl; (with_reducible repeat (first | refine kN_ ?_ _ | refine kD_ ?_ | refine kA_ ?_ _)); exact BK158.out) Try.underlying35 rfl (by kernel_rfl)) rfl ?_
           exact ⟨by first | rfl | (simp [eN_, eS_] <;> rfl) | (simp [*, eN_, eS_] <;> rfl), by repeat (first | (with_reducible first | exact HB.out | apply bA_ | apply bN_ | apply b1_ | refine bS_ ?_ GE158.out | refine bS_ ?_ GE159.out) | exact HB.out)⟩
          replace c38 := Bool.eq_false_iff.mpr c38
          subst c38
          have H1 : (some (0, 0, 0, 0, 0, (⟨#[]⟩ : ByteArray), 8)) = some (r1, r2, r3, r4, r5, r6, r7) := by rw [if_neg (show ¬ (false = true) by decide)] at H; exact H
          clear H
          have H := H1
          clear H1
          simp only [Option.some.injEq, Prod.mk.injEq] at H
          obtain ⟨rfl, rfl, rfl, rfl, rfl, rfl, rfl⟩ := H
          have hnb54 := NB159_158.out
          have hnc54 := NB158_159.out
          have hcz55_0 : wc.cell? ⟨gb159, 0, none⟩ = some (.int .i64 (wrap64 (a0 / 67108864))) := (bC_ BK159.out 0).trans rfl
          have hcz55_1 : wc.cell? ⟨gb159, 1, none⟩ = some (.int .i64 x160b_5) := (bC_ BK159.out 1).trans rfl
          have hcz55_2 : wc.cell? ⟨gb159, 2, none⟩ = some (.int .i64 x160c_14) := (bC_ BK159.out 2).trans rfl
          have hcz55_3 : wc.cell? ⟨gb159, 3, none⟩ = some (.int .i64 x160d_18) := (bC_ BK159.out 3).trans rfl
          have hcz55_4 : wc.cell? ⟨gb159, 4, none⟩ = some (.int .i64 x160e_27) := (bC_ BK159.out 4).trans rfl
          have hcz55_5 : wc.cell? ⟨gb159, 5, none⟩ = some (.string (⟨#[]⟩ : ByteArray)) := (bC_ BK159.out 5).trans rfl
          have hfz55_0 := bZ_ BK159.out 0
          have hfz55_1 := bZ_ BK159.out 1
          have hfz55_2 := bZ_ BK159.out 2
          have hfz55_3 := bZ_ BK159.out 3
          have hfz55_4 := bZ_ BK159.out 4
          have hfz55_5 := bZ_ BK159.out 5
          go_wp2_with (first | ((with_reducible refine gC_ (f := 28) rfl ?_); refine goesL_ (some 68) rfl rfl Try.func28 (by kernel_rfl) rfl #[.agg #[.int .i64 (wrap64 (a0 / 67108864)), .int .i64 x160b_5, .int .i64 x160c_14, .int .i64 x160d_18, .int .i64 x160e_27, .string (⟨#[]⟩ : ByteArray)]] rfl (by (try simp only [List.map_toArray, List.map_cons, List.map_nil]); first | done | rfl) ?_; (with_reducible refine (isa_IsIns.calls kj27 (wrap64 (a0 / 67108864)) x160b_5 x160c_14 x160d_18 x160e_27 (⟨#[]⟩ : ByteArray) false _ A37.out).mono ?_); rintro e w56 ⟨rfl, hb⟩; refine ⟨_, rfl, ?_⟩; have n0_ := As_.mk (kB_ (g := gb158) (o := .cells #[.int .i64 0, .int .i64 0, .int .i64 0, .int .i64 0, .int .i64 0, .string (⟨#[]⟩ : ByteArray)] 35 (0, 0)) (by (with_reducible repeat (first | refine kN_ ?_ _ | refine kD_ ?_ | refine kA_ ?_ _)); exact BK158.out) hb); have n1_ := As_.mk (kB_ (g := gb159) (o := .cells #[.int .i64 (wrap64 (a0 / 67108864)), .int .i64 x160b_5, .int .i64 x160c_14, .int .i64 x160d_18, .int .i64 x160e_27, .string (⟨#[]⟩ : ByteArray)] 35 (0, 0)) (by (with_reducible repeat (first | refine kN_ ?_ _ | refine kD_ ?_ | refine kA_ ?_ _)); exact BK159.out) hb); have n2_ := As_.mk (bT_ (by repeat (first | (with_reducible first | exact HB.out | apply bA_ | apply bN_ | apply b1_ | refine bS_ ?_ GE158.out | refine bS_ ?_ GE159.out) | exact HB.out)) hb); clear BK158; clear BK159; clear HB; have BK158 := n0_; have BK159 := n1_; have HB := n2_; clear n0_ n1_ n2_; have hcz57_0 : w56.cell? ⟨gb158, 0, none⟩ = some (.int .i64 0) := (bC_ BK158.out 0).trans rfl; have hcz57_1 : w56.cell? ⟨gb158, 1, none⟩ = some (.int .i64 0) := (bC_ BK158.out 1).trans rfl; have hcz57_2 : w56.cell? ⟨gb158, 2, none⟩ = some (.int .i64 0) := (bC_ BK158.out 2).trans rfl; have hcz57_3 : w56.cell? ⟨gb158, 3, none⟩ = some (.int .i64 0) := (bC_ BK158.out 3).trans rfl; have hcz57_4 : w56.cell? ⟨gb158, 4, none⟩ = some (.int .i64 0) := (bC_ BK158.out 4).trans rfl; have hcz57_5 : w56.cell? ⟨gb158, 5, none⟩ = some (.string (⟨#[]⟩ : ByteArray)) := (bC_ BK158.out 5).trans rfl; have hfz57_0 := bZ_ BK158.out 0; have hfz57_1 := bZ_ BK158.out 1; have hfz57_2 := bZ_ BK158.out 2; have hfz57_3 := bZ_ BK158.out 3; have hfz57_4 := bZ_ BK158.out 4; have hfz57_5 := bZ_ BK158.out 5))
          refine bodyPost_ret (results_ct rfl _ _ gb158 35 #[.int .i64 0, .int .i64 0, .int .i64 0, .int .i64 0, .int .i64 0, .string (⟨#[]⟩ : ByteArray)] (0, 0) _ rfl (by (with_reducible repeat (first | refine kN_ ?_ _ | refine kD_ ?_ | refine kA_ ?_ _)); refine blk_put (cs := #[.int .i64 0, .int .i64 0, .int .i64 0, .int .i64 0, .int .i64 0, .string (⟨#[]⟩ : ByteArray)]) ?_ 5 _ rfl; (with_reducible repeat (first | refine kN_ ?_ _ | refine kD_ ?_ | refine kA_ ?_ _)); refine blk_put (cs := #[.int .i64 0, .int .i64 0, .int .i64 0, .int .i64 0, .int .i64 0, .string (⟨#[]⟩ : ByteArray)]) ?_ 4 _ rfl; (with_reducible repeat (first | refine kN_ ?_ _ | refine kD_ ?_ | refine kA_ ?_ _)); refine blk_put (cs := #[.int .i64 0, .int .i64 0, .int .i64 0, .int .i64 0, .int .i64 0, .string (⟨#[]⟩ : ByteArray)]) ?_ 3 _ rfl; (with_reducible repeat (first | refine kN_ ?_ _ | refine kD_ ?_ | refine kA_ ?_ _)); refine blk_put (cs := #[.int .i64 0, .int .i64 0, .int .i64 0, .int .i64 0, .int .i64 0, .string (⟨#[]⟩ : ByteArray)]) ?_ 2 _ rfl; (with_reducible repeat (first | refine kN_ ?_ _ | refine kD_ ?_ | refine kA_ ?_ _)); refine blk_put (cs := #[.int .i64 0, .int .i64 0, .int .i64 0, .int .i64 0, .int .i64 0, .string (⟨#[]⟩ : ByteArray)]) ?_ 1 _ rfl; (with_reducible repeat (first | refine kN_ ?_ _ | refine kD_ ?_ | refine kA_ ?_ _)); refine blk_put (cs := #[.int .i64 0, .int .i64 0, .int .i64 0, .int .i64 0, .int .i64 0, .string (⟨#[]⟩ : ByteArray)]) ?_ 0 _ rfl; (with_reducible repeat (first | refine kN_ ?_ _ | refine kD_ ?_ | refine kA_ ?_ _)); exact BK158.out) Try.underlying35 rfl (by kernel_rfl)) rfl ?_
          exact ⟨by first | rfl | (simp [eN_, eS_] <;> rfl) | (simp [*, eN_, eS_] <;> rfl), by repeat (first | (with_reducible first | exact HB.out | apply bA_ | apply bN_ | apply b1_ | refine bS_ ?_ GE158.out | refine bS_ ?_ GE159.out) | exact HB.out)⟩
 replace c3 := Bool.eq_false_iff.mpr c3
 subst c3
 have H1 : (some (0, 0, 0, 0, 0, (⟨#[]⟩ : ByteArray), 8)) = some (r1, r2, r3, r4, r5, r6, r7) := by rw [if_neg (show ¬ (false = true) by decide)] at H; exact H
 clear H
 have H := H1
 clear H1
 simp only [Option.some.injEq, Prod.mk.injEq] at H
 obtain ⟨rfl, rfl, rfl, rfl, rfl, rfl, rfl⟩ := H
 go_enter Try.func12, Try.ntmps12
 go_wp2_with (first | ((with_reducible refine gate_dst (N := 2) rfl ?_); refine box_event ?hg (N := 2) ?hd (cs := #[.int .i64 0, .int .i64 0, .int .i64 0, .int .i64 0, .int .i64 0, .string (⟨#[]⟩ : ByteArray)]) (t := 35) ?hr ?_; (case hd => rfl); (case hg => rfl); (case hr => first | (go_simp; done) | (go_simp; rfl)); intro gb158 hg w58 hbox hb; have n0_ := As_.mk (bT_ (by repeat (first | (with_reducible first | exact HB.out | apply bA_ | apply bN_ | apply b1_) | exact HB.out)) hb); have n1_ := As_.mk (hbox); have n2_ := As_.mk ((by rw [hg]; exact (bY_ (by repeat (first | (with_reducible first | exact HB.out | apply bA_ | apply bN_ | apply b1_) | exact HB.out))) : w.heap.size ≤ gb158)); have n3_ := As_.mk ((by rw [hg]; exact (bY_ (by repeat (first | (with_reducible first | exact HB.out | apply bA_ | apply bN_ | apply b1_) | exact HB.out))) : w.heap.size ≤ gb158)); clear HB; have HB := n0_; have BK158 := n1_; have GW158 := n2_; have GE158 := n3_; clear n0_ n1_ n2_ n3_; clear hb hbox hg) | ((with_reducible refine gate_dst (N := 4) rfl ?_); refine box_event ?hg (N := 4) ?hd (cs := #[.int .i64 0, .int .i64 0, .int .i64 0, .int .i64 0, .int .i64 0, .string (⟨#[]⟩ : ByteArray)]) (t := 35) ?hr ?_; (case hd => rfl); (case hg => rfl); (case hr => first | (go_simp; done) | (go_simp; rfl)); intro gb159 hg w59 hbox hb; have n0_ := As_.mk (kB_ (g := gb158) (o := .cells #[.int .i64 0, .int .i64 0, .int .i64 0, .int .i64 0, .int .i64 0, .string (⟨#[]⟩ : ByteArray)] 35 (0, 0)) (by (with_reducible repeat (first | refine kN_ ?_ _ | refine kD_ ?_ | refine kA_ ?_ _)); exact BK158.out) hb); have n1_ := As_.mk (bT_ (by repeat (first | (with_reducible first | exact HB.out | apply bA_ | apply bN_ | apply b1_ | refine bS_ ?_ GE158.out) | exact HB.out)) hb); have n2_ := As_.mk (hbox); have n3_ := As_.mk ((by rw [hg]; exact (bY_ (by repeat (first | (with_reducible first | exact HB.out | apply bA_ | apply bN_ | apply b1_ | refine bS_ ?_ GE158.out) | exact HB.out))) : w.heap.size ≤ gb159)); have n4_ := As_.mk ((by rw [hg]; exact (bY_ (by repeat (first | (with_reducible first | exact HB.out | apply bA_ | apply bN_ | apply b1_ | refine bS_ ?_ GE158.out) | exact HB.out))) : w.heap.size ≤ gb159)); have n5_ := As_.mk ((by rw [hg]; exact Nat.ne_of_lt (blk_lt (g := gb158) (o := .cells #[.int .i64 0, .int .i64 0, .int .i64 0, .int .i64 0, .int .i64 0, .string (⟨#[]⟩ : ByteArray)] 35 (0, 0)) (by (with_reducible repeat (first | refine kN_ ?_ _ | refine kD_ ?_ | refine kA_ ?_ _)); exact BK158.out)) : gb158 ≠ gb159)); have n6_ := As_.mk ((by rw [hg]; exact Nat.ne_of_gt (blk_lt (g := gb158) (o := .cells #[.int .i64 0, .int .i64 0, .int .i64 0, .int .i64 0, .int .i64 0, .string (⟨#[]⟩ : ByteArray)] 35 (0, 0)) (by (with_reducible repeat (first | refine kN_ ?_ _ | refine kD_ ?_ | refine kA_ ?_ _)); exact BK158.out)) : gb159 ≠ gb158)); clear BK158; clear HB; have BK158 := n0_; have HB := n1_; have BK159 := n2_; have GW159 := n3_; have GE159 := n4_; have NB158_159 := n5_; have NB159_158 := n6_; clear n0_ n1_ n2_ n3_ n4_ n5_ n6_; clear hb hbox hg; have hnb60 := NB159_158.out; have hnc60 := NB158_159.out; have hcz61_0 : w59.cell? ⟨gb159, 0, none⟩ = some (.int .i64 0) := (bC_ BK159.out 0).trans rfl; have hcz61_1 : w59.cell? ⟨gb159, 1, none⟩ = some (.int .i64 0) := (bC_ BK159.out 1).trans rfl; have hcz61_2 : w59.cell? ⟨gb159, 2, none⟩ = some (.int .i64 0) := (bC_ BK159.out 2).trans rfl; have hcz61_3 : w59.cell? ⟨gb159, 3, none⟩ = some (.int .i64 0) := (bC_ BK159.out 3).trans rfl; have hcz61_4 : w59.cell? ⟨gb159, 4, none⟩ = some (.int .i64 0) := (bC_ BK159.out 4).trans rfl; have hcz61_5 : w59.cell? ⟨gb159, 5, none⟩ = some (.string (⟨#[]⟩ : ByteArray)) := (bC_ BK159.out 5).trans rfl; have hfz61_0 := bZ_ BK159.out 0; have hfz61_1 := bZ_ BK159.out 1; have hfz61_2 := bZ_ BK159.out 2; have hfz61_3 := bZ_ BK159.out 3; have hfz61_4 := bZ_ BK159.out 4; have hfz61_5 := bZ_ BK159.out 5) | ((with_reducible refine gC_ (f := 35) rfl ?_); refine goesL_ (some 16) rfl rfl Try.func35 (by kernel_rfl) rfl #[.int .i64 (wrap64 (a0 / 67108864))] rfl (by (try simp only [List.map_toArray, List.map_cons, List.map_nil]); first | done | rfl) ?_; (with_reducible refine (isa_Is.calls (wrap64 (a0 / 67108864)) false _ A2.out).mono ?_); rintro e w' ⟨rfl, ⟨nd, rfl⟩⟩; refine ⟨_, rfl, ?_⟩; have hcz62_0 : w59.cell? ⟨gb158, 0, none⟩ = some (.int .i64 0) := (bC_ BK158.out 0).trans rfl; have hcz62_1 : w59.cell? ⟨gb158, 1, none⟩ = some (.int .i64 0) := (bC_ BK158.out 1).trans rfl; have hcz62_2 : w59.cell? ⟨gb158, 2, none⟩ = some (.int .i64 0) := (bC_ BK158.out 2).trans rfl; have hcz62_3 : w59.cell? ⟨gb158, 3, none⟩ = some (.int .i64 0) := (bC_ BK158.out 3).trans rfl; have hcz62_4 : w59.cell? ⟨gb158, 4, none⟩ = some (.int .i64 0) := (bC_ BK158.out 4).trans rfl; have hcz62_5 : w59.cell? ⟨gb158, 5, none⟩ = some (.string (⟨#[]⟩ : ByteArray)) := (bC_ BK158.out 5).trans rfl; have hfz62_0 := bZ_ BK158.out 0; have hfz62_1 := bZ_ BK158.out 1; have hfz62_2 := bZ_ BK158.out 2; have hfz62_3 := bZ_ BK158.out 3; have hfz62_4 := bZ_ BK158.out 4; have hfz62_5 := bZ_ BK158.out 5))
 refine bodyPost_ret (results_ct rfl _ _ gb158 35 #[.int .i64 0, .int .i64 0, .int .i64 0, .int .i64 0, .int .i64 0, .string (⟨#[]⟩ : ByteArray)] (0, 0) _ rfl (by (with_reducible repeat (first | refine kN_ ?_ _ | refine kD_ ?_ | refine kA_ ?_ _)); refine blk_put (cs := #[.int .i64 0, .int .i64 0, .int .i64 0, .int .i64 0, .int .i64 0, .string (⟨#[]⟩ : ByteArray)]) ?_ 5 _ rfl; (with_reducible repeat (first | refine kN_ ?_ _ | refine kD_ ?_ | refine kA_ ?_ _)); refine blk_put (cs := #[.int .i64 0, .int .i64 0, .int .i64 0, .int .i64 0, .int .i64 0, .string (⟨#[]⟩ : ByteArray)]) ?_ 4 _ rfl; (with_reducible repeat (first | refine kN_ ?_ _ | refine kD_ ?_ | refine kA_ ?_ _)); refine blk_put (cs := #[.int .i64 0, .int .i64 0, .int .i64 0, .int .i64 0, .int .i64 0, .string (⟨#[]⟩ : ByteArray)]) ?_ 3 _ rfl; (with_reducible repeat (first | refine kN_ ?_ _ | refine kD_ ?_ | refine kA_ ?_ _)); refine blk_put (cs := #[.int .i64 0, .int .i64 0, .int .i64 0, .int .i64 0, .int .i64 0, .string (⟨#[]⟩ : ByteArray)]) ?_ 2 _ rfl; (with_reducible repeat (first | refine kN_ ?_ _ | refine kD_ ?_ | refine kA_ ?_ _)); refine blk_put (cs := #[.int .i64 0, .int .i64 0, .int .i64 0, .int .i64 0, .int .i64 0, .string (⟨#[]⟩ : ByteArray)]) ?_ 1 _ rfl; (with_reducible repeat (first | refine kN_ ?_ _ | refine kD_ ?_ | refine kA_ ?_ _)); refine blk_put (cs := #[.int .i64 0, .int .i64 0, .int .i64 0, .int .i64 0, .int .i64 0, .string (⟨#[]⟩ : ByteArray)]) ?_ 0 _ rfl; (with_reducible repeat (first | refine kN_ ?_ _ | refine kD_ ?_ | refine kA_ ?_ _)); refine blk_far ?_ NB158_159.out _; (with_reducible repeat (first | refine kN_ ?_ _ | refine kD_ ?_ | refine kA_ ?_ _)); refine blk_far ?_ NB158_159.out _; (with_reducible repeat (first | refine kN_ ?_ _ | refine kD_ ?_ | refine kA_ ?_ _)); refine blk_far ?_ NB158_159.out _; (with_reducible repeat (first | refine kN_ ?_ _ | refine kD_ ?_ | refine kA_ ?_ _)); refine blk_far ?_ NB158_159.out _; (with_reducible repeat (first | refine kN_ ?_ _ | refine kD_ ?_ | refine kA_ ?_ _)); refine blk_far ?_ NB158_159.out _; (with_reducible repeat (first | refine kN_ ?_ _ | refine kD_ ?_ | refine kA_ ?_ _)); refine blk_far ?_ NB158_159.out _; (with_reducible repeat (first | refine kN_ ?_ _ | refine kD_ ?_ | refine kA_ ?_ _)); exact BK158.out) Try.underlying35 rfl (by kernel_rfl)) rfl ?_
 exact ⟨by first | rfl | (simp [eN_, eS_] <;> rfl) | (simp [*, eN_, eS_] <;> rfl), by repeat (first | (with_reducible first | exact HB.out | apply bA_ | apply bN_ | apply b1_ | refine bS_ ?_ GE158.out | refine bS_ ?_ GE159.out) | exact HB.out)⟩
def r1_Sign.f (a0 : Int) (a1 : Int) : Option (Int) := if 0 ≤ (wrap64 (a1 - 1)) then (if (wrap64 (a0)) ≥ (shl .i64 1 (wrap64 (a1 - 1))) then (if 0 ≤ a1 then (some (wrap64 ((wrap64 (a0)) - (shl .i64 1 a1)))) else (none)) else (some (wrap64 (a0)))) else (none)
set_option maxHeartbeats 8000000 in
set_option maxRecDepth 100000 in
theorem r1_Sign.calls (a0 : Int) (a1 : Int) (r : Int) (w : World) (h : r1_Sign.f a0 a1 = some r) :
    Calls Try.prog 43 #[.int .u32 a0, .int .i64 a1] w fun e w' => e = .returned (.int .i64 r) ∧ Dr_ w w' := by
 have H : (if 0 ≤ (wrap64 (a1 - 1)) then (if (wrap64 (a0)) ≥ (shl .i64 1 (wrap64 (a1 - 1))) then (if 0 ≤ a1 then (some (wrap64 ((wrap64 (a0)) - (shl .i64 1 a1)))) else (none)) else (some (wrap64 (a0)))) else (none)) = some r := h
 clear h
 obtain ⟨ji3, hji3⟩ : ∃ j_ : Int, (wrap64 (a1 - 1)) = j_ := ⟨_, rfl⟩
 replace H : (if 0 ≤ (ji3) then (if (wrap64 (a0)) ≥ (shl .i64 1 (ji3)) then (if 0 ≤ a1 then (some (wrap64 ((wrap64 (a0)) - (shl .i64 1 a1)))) else (none)) else (some (wrap64 (a0)))) else (none)) = some r := by first | (rw [hji3] at H; exact H) | (simp only [hji3] at H ⊢; exact H)
 have hji3w : (IntKind.i64.wrap (a1 - 1)) = ji3 := (i64_w _).trans hji3
 by_cases c4 : 0 ≤ (ji3)
 ·rw [if_pos c4] at H
  have c4b0 := eq_true c4
  have c4b1 : decide (0 ≤ (ji3)) = true := decide_eq_true c4
  clear c4
  obtain ⟨ji5, hji5⟩ : ∃ j_ : Int, (shl .i64 1 (ji3)) = j_ := ⟨_, rfl⟩
  replace H : (if (wrap64 (a0)) ≥ (ji5) then (if 0 ≤ a1 then (some (wrap64 ((wrap64 (a0)) - (shl .i64 1 a1)))) else (none)) else (some (wrap64 (a0)))) = some r := by first | (rw [hji5] at H; exact H) | (simp only [hji5] at H ⊢; exact H)
  have hji5_ : (IntKind.i64.wrap (1 * 2 ^ min (ji3).toNat 64)) = ji5 := hji5
  have hji5z : (ji3) ≤ 64 → (IntKind.i64.wrap (1 * 2 ^ (ji3).toNat)) = ji5 := shl_small hji5
  have hji5u : (IntKind.i64.wrap (2 ^ min (ji3).toNat 64)) = ji5 := by have h_ := hji5_; rw [Int.one_mul] at h_; exact h_
  have hji5v : (ji3) ≤ 64 → (IntKind.i64.wrap (2 ^ (ji3).toNat)) = ji5 := fun hle_ => by have h_ := hji5z hle_; rw [Int.one_mul] at h_; exact h_
  have hji5y : (wrap64 (1 * 2 ^ min (ji3).toNat 64)) = ji5 := (i64_w _).symm.trans hji5_
  have hji5x : (ji3) ≤ 64 → (wrap64 (1 * 2 ^ (ji3).toNat)) = ji5 := fun h_ => (i64_w _).symm.trans (hji5z h_)
  by_cases c6 : (wrap64 (a0)) ≥ (ji5)
  ·rw [if_pos c6] at H
   have c6b0 : decide ((ji5) ≤ (wrap64 (a0))) = true := decide_eq_true c6
   clear c6
   by_cases c7 : 0 ≤ a1
   ·rw [if_pos c7] at H
    have c7b0 := eq_true c7
    have c7b1 : decide (0 ≤ a1) = true := decide_eq_true c7
    clear c7
    obtain ⟨ji8, hji8⟩ : ∃ j_ : Int, (shl .i64 1 a1) = j_ := ⟨_, rfl⟩
    replace H : (some (wrap64 ((wrap64 (a0)) - (ji8)))) = some r := by first | (rw [hji8] at H; exact H) | (simp only [hji8] at H ⊢; exact H)
    have hji8_ : (IntKind.i64.wrap (1 * 2 ^ min a1.toNat 64)) = ji8 := hji8
    have hji8z : a1 ≤ 64 → (IntKind.i64.wrap (1 * 2 ^ a1.toNat)) = ji8 := shl_small hji8
    have hji8u : (IntKind.i64.wrap (2 ^ min a1.toNat 64)) = ji8 := by have h_ := hji8_; rw [Int.one_mul] at h_; exact h_
    have hji8v : a1 ≤ 64 → (IntKind.i64.wrap (2 ^ a1.toNat)) = ji8 := fun hle_ => by have h_ := hji8z hle_; rw [Int.one_mul] at h_; exact h_
    have hji8y : (wrap64 (1 * 2 ^ min a1.toNat 64)) = ji8 := (i64_w _).symm.trans hji8_
    have hji8x : a1 ≤ 64 → (wrap64 (1 * 2 ^ a1.toNat)) = ji8 := fun h_ => (i64_w _).symm.trans (hji8z h_)
    obtain rfl := Option.some.inj H
    go_enter Try.func43, Try.ntmps43
    go_wp2
    go_ret
    exact ⟨by first | rfl | (simp; done) | (simp only [← hji3, ← hji5, ← hji8] <;> (first | rfl | simp)) | (simp [*]; done) | (congr 1; rw [Bool.eq_iff_iff]; simp; done), by repeat (first | exact Dr_.refl _ | apply Dr_.step)⟩
   rw [if_neg c7] at H
   exact absurd H (by simp)
  rw [if_neg c6] at H
  have c6b0 : decide ((ji5) ≤ (wrap64 (a0))) = false := decide_eq_false c6
  clear c6
  obtain rfl := Option.some.inj H
  go_enter Try.func43, Try.ntmps43
  go_wp2
  go_ret
  exact ⟨by first | rfl | (simp; done) | (simp only [← hji3, ← hji5] <;> (first | rfl | simp)) | (simp [*]; done) | (congr 1; rw [Bool.eq_iff_iff]; simp; done), by repeat (first | exact Dr_.refl _ | apply Dr_.step)⟩
 rw [if_neg c4] at H
 exact absurd H (by simp)
end Go.Proofs.Ytfnchdlgkkdegaa.PAll
