-- the texts that this claim needs, out of this session's and its print's (wip/shrink.py)
import Derived.Test.YtfnchdlgkkdegaaPAllx0T
import Derived.Test.YtfnchdlgkkdegaaPAllx6T
import Derived.Test.YtfnchdlgkkdegaaPAllx8T
import Derived.Test.YtfnchdlgkkdegaaPAllx9T
namespace Go.Proofs.Ytfnchdlgkkdegaa.PAll
open Go.RowKit Go.Proofs.YtfnchdlgkkdegaaW.PrintWords Go.Proofs.YtfnchdlgkkdegaaW.PrintLast Go.Proofs.YtfnchdlgkkdegaaW.PrintMore
attribute [local go_sem] max2_int min2_int max_two min_two max_three min_three max_four min_four   -- for this text's walks alone
set_option linter.unusedVariables false
set_option linter.unusedSimpArgs false
mutual
def r3_Unword.j0 : Nat → Int → Int → Int → Int → Int → Int → Int → Int → Int → Int → ByteArray → Option (Int × Int × Int × Int × Int × ByteArray × Bool)
  | 0, _, _, _, _, _, _, _, _, _, _, _ => none
  | k + 1, x0, x5, x6, x7, x8, x172a, x172b, x172c, x172d, x172e, x172f => (r3_HasA.f x5).bind fun t175 => (if t175 = true then (r3_Unword.j1 k x0 x5 x6 x8 x172a x172b x7 x172d x172e x172f) else (r3_Unword.j1 k x0 x5 x6 x8 x172a x172b x172c x172d x172e x172f))
def r3_Unword.j1 : Nat → Int → Int → Int → Int → Int → Int → Int → Int → Int → ByteArray → Option (Int × Int × Int × Int × Int × ByteArray × Bool)
  | 0, _, _, _, _, _, _, _, _, _, _ => none
  | k + 1, x0, x5, x6, x8, x172a, x172b, x172c, x172d, x172e, x172f => if x5 = 1 then (r3_Unword.j2 k x0 x5 x6 x172a x172b x172c x8 x172e x172f) else (r3_Unword.j2 k x0 x5 x6 x172a x172b x172c x172d x172e x172f)
def r3_Unword.j2 : Nat → Int → Int → Int → Int → Int → Int → Int → Int → ByteArray → Option (Int × Int × Int × Int × Int × ByteArray × Bool)
  | 0, _, _, _, _, _, _, _, _, _ => none
  | k + 1, x0, x5, x6, x172a, x172b, x172c, x172d, x172e, x172f => if x5 = 5 then (r3_Unword.j3 k x0 x5 x172a x172b x172c x6 x172e x172f) else (r3_Unword.j3 k x0 x5 x172a x172b x172c x172d x172e x172f)
def r3_Unword.j3 : Nat → Int → Int → Int → Int → Int → Int → Int → ByteArray → Option (Int × Int × Int × Int × Int × ByteArray × Bool)
  | 0, _, _, _, _, _, _, _, _ => none
  | k + 1, x0, x5, x172a, x172b, x172c, x172d, x172e, x172f => (r3_Bits.f k x5).bind fun t176 => (if t176 > 0 then (if 0 ≤ t176 then ((r3_Target.f x5).bind fun t177 => (if t177 = true then (r3_Unword.j4 k x0 x172a x172b x172c x172d (wrap64 (Go.bits .and .u32 x0 (((shl .u32 1 t176) - 1) % 4294967296))) x172f) else ((r1_Sign.f ((wrap64 (Go.bits .and .u32 x0 (((shl .u32 1 t176) - 1) % 4294967296))) % 4294967296) t176).bind fun t178 => (r3_Unword.j4 k x0 x172a x172b x172c x172d t178 x172f)))) else (none)) else (r3_Unword.j4 k x0 x172a x172b x172c x172d x172e x172f))
def r3_Unword.j4 : Nat → Int → Int → Int → Int → Int → Int → ByteArray → Option (Int × Int × Int × Int × Int × ByteArray × Bool)
  | 0, _, _, _, _, _, _, _ => none
  | k + 1, x0, x172a, x172b, x172c, x172d, x172e, x172f => (r3_Ins.f k x172a x172b x172c x172d x172e x172f).bind fun t179 => (if t179 = true then ((r3_Word.f k x172a x172b x172c x172d x172e x172f).bind fun t180 => (if t180 = x0 then (some (x172a, x172b, x172c, x172d, x172e, x172f, true)) else (some (0, 0, 0, 0, 0, (⟨#[]⟩ : ByteArray), false)))) else (some (0, 0, 0, 0, 0, (⟨#[]⟩ : ByteArray), false)))
end
def r3_Unword.f (k : Nat) (a0 : Int) : Option (Int × Int × Int × Int × Int × ByteArray × Bool) := (r3_Valid.f (wrap64 (a0 / 67108864))).bind fun t172 => (if t172 = true then ((r3_Form.f (wrap64 (a0 / 67108864))).bind fun t173 => ((r3_HasD.f t173).bind fun t174 => (if t174 = true then (r3_Unword.j0 k a0 t173 (wrap64 (Go.bits .and .u32 (a0 / 4194304) 15)) (wrap64 (Go.bits .and .u32 (a0 / 262144) 15)) (wrap64 (Go.bits .and .u32 (a0 / 16384) 15)) (wrap64 (a0 / 67108864)) (wrap64 (Go.bits .and .u32 (a0 / 4194304) 15)) 0 0 0 (⟨#[]⟩ : ByteArray)) else (r3_Unword.j0 k a0 t173 (wrap64 (Go.bits .and .u32 (a0 / 4194304) 15)) (wrap64 (Go.bits .and .u32 (a0 / 262144) 15)) (wrap64 (Go.bits .and .u32 (a0 / 16384) 15)) (wrap64 (a0 / 67108864)) 0 0 0 0 (⟨#[]⟩ : ByteArray))))) else (some (0, 0, 0, 0, 0, (⟨#[]⟩ : ByteArray), false)))
set_option maxHeartbeats 8000000 in
set_option maxRecDepth 100000 in
theorem r3_Unword.calls (k : Nat) (a0 : Int) (r1 : Int) (r2 : Int) (r3 : Int) (r4 : Int) (r5 : Int) (r6 : ByteArray) (r7 : Bool) (w : World) (h : r3_Unword.f k a0 = some (r1, r2, r3, r4, r5, r6, r7)) :
    Calls Try.prog 13 #[.int .u32 a0] w fun e w' => e = .returned (.tuple #[.agg #[.int .i64 r1, .int .i64 r2, .int .i64 r3, .int .i64 r4, .int .i64 r5, .string r6], .bool r7]) ∧ Below w.heap.size w w' := by
 have hu35 := Try.underlying35
 have HB := As_.mk (Below.refl w.heap.size w)
 have H : ((r3_Valid.f (wrap64 (a0 / 67108864))).bind fun t172 => (if t172 = true then ((r3_Form.f (wrap64 (a0 / 67108864))).bind fun t173 => ((r3_HasD.f t173).bind fun t174 => (if t174 = true then (r3_Unword.j0 k a0 t173 (wrap64 (Go.bits .and .u32 (a0 / 4194304) 15)) (wrap64 (Go.bits .and .u32 (a0 / 262144) 15)) (wrap64 (Go.bits .and .u32 (a0 / 16384) 15)) (wrap64 (a0 / 67108864)) (wrap64 (Go.bits .and .u32 (a0 / 4194304) 15)) 0 0 0 (⟨#[]⟩ : ByteArray)) else (r3_Unword.j0 k a0 t173 (wrap64 (Go.bits .and .u32 (a0 / 4194304) 15)) (wrap64 (Go.bits .and .u32 (a0 / 262144) 15)) (wrap64 (Go.bits .and .u32 (a0 / 16384) 15)) (wrap64 (a0 / 67108864)) 0 0 0 0 (⟨#[]⟩ : ByteArray))))) else (some (0, 0, 0, 0, 0, (⟨#[]⟩ : ByteArray), false)))) = some (r1, r2, r3, r4, r5, r6, r7) := h
 clear h
 replace H := Option.bind_eq_some_iff.mp H
 obtain ⟨t172, A20, H⟩ := H
 replace H : (if t172 = true then ((r3_Form.f (wrap64 (a0 / 67108864))).bind fun t173 => ((r3_HasD.f t173).bind fun t174 => (if t174 = true then (r3_Unword.j0 k a0 t173 (wrap64 (Go.bits .and .u32 (a0 / 4194304) 15)) (wrap64 (Go.bits .and .u32 (a0 / 262144) 15)) (wrap64 (Go.bits .and .u32 (a0 / 16384) 15)) (wrap64 (a0 / 67108864)) (wrap64 (Go.bits .and .u32 (a0 / 4194304) 15)) 0 0 0 (⟨#[]⟩ : ByteArray)) else (r3_Unword.j0 k a0 t173 (wrap64 (Go.bits .and .u32 (a0 / 4194304) 15)) (wrap64 (Go.bits .and .u32 (a0 / 262144) 15)) (wrap64 (Go.bits .and .u32 (a0 / 16384) 15)) (wrap64 (a0 / 67108864)) 0 0 0 0 (⟨#[]⟩ : ByteArray))))) else (some (0, 0, 0, 0, 0, (⟨#[]⟩ : ByteArray), false))) = some (r1, r2, r3, r4, r5, r6, r7) := H
 have A2 := As_.mk A20
 clear A20
 by_cases c3 : t172 = true
 ·subst c3
  have H1 : ((r3_Form.f (wrap64 (a0 / 67108864))).bind fun t173 => ((r3_HasD.f t173).bind fun t174 => (if t174 = true then (r3_Unword.j0 k a0 t173 (wrap64 (Go.bits .and .u32 (a0 / 4194304) 15)) (wrap64 (Go.bits .and .u32 (a0 / 262144) 15)) (wrap64 (Go.bits .and .u32 (a0 / 16384) 15)) (wrap64 (a0 / 67108864)) (wrap64 (Go.bits .and .u32 (a0 / 4194304) 15)) 0 0 0 (⟨#[]⟩ : ByteArray)) else (r3_Unword.j0 k a0 t173 (wrap64 (Go.bits .and .u32 (a0 / 4194304) 15)) (wrap64 (Go.bits .and .u32 (a0 / 262144) 15)) (wrap64 (Go.bits .and .u32 (a0 / 16384) 15)) (wrap64 (a0 / 67108864)) 0 0 0 0 (⟨#[]⟩ : ByteArray))))) = some (r1, r2, r3, r4, r5, r6, r7) := by rw [if_pos rfl] at H; exact H
  clear H
  have H := H1
  clear H1
  replace H := Option.bind_eq_some_iff.mp H
  obtain ⟨t173, A40, H⟩ := H
  replace H : ((r3_HasD.f t173).bind fun t174 => (if t174 = true then (r3_Unword.j0 k a0 t173 (wrap64 (Go.bits .and .u32 (a0 / 4194304) 15)) (wrap64 (Go.bits .and .u32 (a0 / 262144) 15)) (wrap64 (Go.bits .and .u32 (a0 / 16384) 15)) (wrap64 (a0 / 67108864)) (wrap64 (Go.bits .and .u32 (a0 / 4194304) 15)) 0 0 0 (⟨#[]⟩ : ByteArray)) else (r3_Unword.j0 k a0 t173 (wrap64 (Go.bits .and .u32 (a0 / 4194304) 15)) (wrap64 (Go.bits .and .u32 (a0 / 262144) 15)) (wrap64 (Go.bits .and .u32 (a0 / 16384) 15)) (wrap64 (a0 / 67108864)) 0 0 0 0 (⟨#[]⟩ : ByteArray)))) = some (r1, r2, r3, r4, r5, r6, r7) := H
  have A4 := As_.mk A40
  clear A40
  replace H := Option.bind_eq_some_iff.mp H
  obtain ⟨t174, A50, H⟩ := H
  replace H : (if t174 = true then (r3_Unword.j0 k a0 t173 (wrap64 (Go.bits .and .u32 (a0 / 4194304) 15)) (wrap64 (Go.bits .and .u32 (a0 / 262144) 15)) (wrap64 (Go.bits .and .u32 (a0 / 16384) 15)) (wrap64 (a0 / 67108864)) (wrap64 (Go.bits .and .u32 (a0 / 4194304) 15)) 0 0 0 (⟨#[]⟩ : ByteArray)) else (r3_Unword.j0 k a0 t173 (wrap64 (Go.bits .and .u32 (a0 / 4194304) 15)) (wrap64 (Go.bits .and .u32 (a0 / 262144) 15)) (wrap64 (Go.bits .and .u32 (a0 / 16384) 15)) (wrap64 (a0 / 67108864)) 0 0 0 0 (⟨#[]⟩ : ByteArray))) = some (r1, r2, r3, r4, r5, r6, r7) := H
  have A5 := As_.mk A50
  clear A50
  have HC6 := As_.mk H
  clear H
  go_enter Try.func13, Try.ntmps13
  go_upto_if 35 with (first | ((with_reducible refine gate_dst (N := 2) rfl ?_); refine box_event ?hg (N := 2) ?hd (cs := #[.int .i64 0, .int .i64 0, .int .i64 0, .int .i64 0, .int .i64 0, .string (⟨#[]⟩ : ByteArray)]) (t := 35) ?hr ?_; (case hd => rfl); (case hg => rfl); (case hr => first | (go_simp; done) | (go_simp; rfl)); intro gb170 hg w7 hbox hb; have n0_ := As_.mk (bT_ (by repeat (first | (with_reducible first | exact HB.out | apply bA_ | apply bN_ | apply b1_) | exact HB.out)) hb); have n1_ := As_.mk (hbox); have n2_ := As_.mk ((by rw [hg]; exact (bY_ (by repeat (first | (with_reducible first | exact HB.out | apply bA_ | apply bN_ | apply b1_) | exact HB.out))) : w.heap.size ≤ gb170)); have n3_ := As_.mk ((by rw [hg]; exact (bY_ (by repeat (first | (with_reducible first | exact HB.out | apply bA_ | apply bN_ | apply b1_) | exact HB.out))) : w.heap.size ≤ gb170)); clear HB; have HB := n0_; have BK170 := n1_; have GW170 := n2_; have GE170 := n3_; clear n0_ n1_ n2_ n3_; clear hb hbox hg) | ((with_reducible refine gate_dst (N := 4) rfl ?_); refine box_event ?hg (N := 4) ?hd (cs := #[.int .i64 0, .int .i64 0, .int .i64 0, .int .i64 0, .int .i64 0, .string (⟨#[]⟩ : ByteArray)]) (t := 35) ?hr ?_; (case hd => rfl); (case hg => rfl); (case hr => first | (go_simp; done) | (go_simp; rfl)); intro gb171 hg w8 hbox hb; have n0_ := As_.mk (kB_ (g := gb170) (o := .cells #[.int .i64 0, .int .i64 0, .int .i64 0, .int .i64 0, .int .i64 0, .string (⟨#[]⟩ : ByteArray)] 35 (0, 0)) (by (with_reducible repeat (first | refine kN_ ?_ _ | refine kD_ ?_ | refine kA_ ?_ _)); exact BK170.out) hb); have n1_ := As_.mk (bT_ (by repeat (first | (with_reducible first | exact HB.out | apply bA_ | apply bN_ | apply b1_ | refine bS_ ?_ GE170.out) | exact HB.out)) hb); have n2_ := As_.mk (hbox); have n3_ := As_.mk ((by rw [hg]; exact (bY_ (by repeat (first | (with_reducible first | exact HB.out | apply bA_ | apply bN_ | apply b1_ | refine bS_ ?_ GE170.out) | exact HB.out))) : w.heap.size ≤ gb171)); have n4_ := As_.mk ((by rw [hg]; exact (bY_ (by repeat (first | (with_reducible first | exact HB.out | apply bA_ | apply bN_ | apply b1_ | refine bS_ ?_ GE170.out) | exact HB.out))) : w.heap.size ≤ gb171)); have n5_ := As_.mk ((by rw [hg]; exact Nat.ne_of_lt (blk_lt (g := gb170) (o := .cells #[.int .i64 0, .int .i64 0, .int .i64 0, .int .i64 0, .int .i64 0, .string (⟨#[]⟩ : ByteArray)] 35 (0, 0)) (by (with_reducible repeat (first | refine kN_ ?_ _ | refine kD_ ?_ | refine kA_ ?_ _)); exact BK170.out)) : gb170 ≠ gb171)); have n6_ := As_.mk ((by rw [hg]; exact Nat.ne_of_gt (blk_lt (g := gb170) (o := .cells #[.int .i64 0, .int .i64 0, .int .i64 0, .int .i64 0, .int .i64 0, .string (⟨#[]⟩ : ByteArray)] 35 (0, 0)) (by (with_reducible repeat (first | refine kN_ ?_ _ | refine kD_ ?_ | refine kA_ ?_ _)); exact BK170.out)) : gb171 ≠ gb170)); clear BK170; clear HB; have BK170 := n0_; have HB := n1_; have BK171 := n2_; have GW171 := n3_; have GE171 := n4_; have NB170_171 := n5_; have NB171_170 := n6_; clear n0_ n1_ n2_ n3_ n4_ n5_ n6_; clear hb hbox hg; have hnb9 := NB171_170.out; have hnc9 := NB170_171.out; have hcz10_0 : w8.cell? ⟨gb171, 0, none⟩ = some (.int .i64 0) := (bC_ BK171.out 0).trans rfl; have hcz10_1 : w8.cell? ⟨gb171, 1, none⟩ = some (.int .i64 0) := (bC_ BK171.out 1).trans rfl; have hcz10_2 : w8.cell? ⟨gb171, 2, none⟩ = some (.int .i64 0) := (bC_ BK171.out 2).trans rfl; have hcz10_3 : w8.cell? ⟨gb171, 3, none⟩ = some (.int .i64 0) := (bC_ BK171.out 3).trans rfl; have hcz10_4 : w8.cell? ⟨gb171, 4, none⟩ = some (.int .i64 0) := (bC_ BK171.out 4).trans rfl; have hcz10_5 : w8.cell? ⟨gb171, 5, none⟩ = some (.string (⟨#[]⟩ : ByteArray)) := (bC_ BK171.out 5).trans rfl; have hfz10_0 := bZ_ BK171.out 0; have hfz10_1 := bZ_ BK171.out 1; have hfz10_2 := bZ_ BK171.out 2; have hfz10_3 := bZ_ BK171.out 3; have hfz10_4 := bZ_ BK171.out 4; have hfz10_5 := bZ_ BK171.out 5) | ((with_reducible refine gC_ (f := 30) rfl ?_); refine goesL_ (some 16) rfl rfl Try.func30 (by kernel_rfl) rfl #[.int .i64 (wrap64 (a0 / 67108864))] rfl (by (try simp only [List.map_toArray, List.map_cons, List.map_nil]); first | done | rfl) ?_; (with_reducible refine (r3_Valid.calls (wrap64 (a0 / 67108864)) true _ A2.out).mono ?_); rintro e w' ⟨rfl, ⟨nd, rfl⟩⟩; refine ⟨_, rfl, ?_⟩) | ((with_reducible refine gC_ (f := 15) rfl ?_); refine goesL_ (some 21) rfl rfl Try.func15 (by kernel_rfl) rfl #[.int .i64 (wrap64 (a0 / 67108864))] rfl (by (try simp only [List.map_toArray, List.map_cons, List.map_nil]); first | done | rfl) ?_; (with_reducible refine (r3_Form.calls (wrap64 (a0 / 67108864)) t173 _ A4.out).mono ?_); rintro e w11 ⟨rfl, hb⟩; refine ⟨_, rfl, ?_⟩; have n0_ := As_.mk (kB_ (g := gb170) (o := .cells #[.int .i64 0, .int .i64 0, .int .i64 0, .int .i64 0, .int .i64 0, .string (⟨#[]⟩ : ByteArray)] 35 (0, 0)) (by (with_reducible repeat (first | refine kN_ ?_ _ | refine kD_ ?_ | refine kA_ ?_ _)); refine blk_far ?_ NB170_171.out _; (with_reducible repeat (first | refine kN_ ?_ _ | refine kD_ ?_ | refine kA_ ?_ _)); refine blk_far ?_ NB170_171.out _; (with_reducible repeat (first | refine kN_ ?_ _ | refine kD_ ?_ | refine kA_ ?_ _)); refine blk_far ?_ NB170_171.out _; (with_reducible repeat (first | refine kN_ ?_ _ | refine kD_ ?_ | refine kA_ ?_ _)); refine blk_far ?_ NB170_171.out _; (with_reducible repeat (first | refine kN_ ?_ _ | refine kD_ ?_ | refine kA_ ?_ _)); refine blk_far ?_ NB170_171.out _; (with_reducible repeat (first | refine kN_ ?_ _ | refine kD_ ?_ | refine kA_ ?_ _)); refine blk_far ?_ NB170_171.out _; (with_reducible repeat (first | refine kN_ ?_ _ | refine kD_ ?_ | refine kA_ ?_ _)); exact BK170.out) hb); have n1_ := As_.mk (kB_ (g := gb171) (o := .cells #[.int .i64 (wrap64 (a0 / 67108864)), .int .i64 0, .int .i64 0, .int .i64 0, .int .i64 0, .string (⟨#[]⟩ : ByteArray)] 35 (0, 0)) (by (with_reducible repeat (first | refine kN_ ?_ _ | refine kD_ ?_ | refine kA_ ?_ _)); refine blk_put (cs := #[.int .i64 (wrap64 (a0 / 67108864)), .int .i64 0, .int .i64 0, .int .i64 0, .int .i64 0, .string (⟨#[]⟩ : ByteArray)]) ?_ 5 _ rfl; (with_reducible repeat (first | refine kN_ ?_ _ | refine kD_ ?_ | refine kA_ ?_ _)); refine blk_put (cs := #[.int .i64 (wrap64 (a0 / 67108864)), .int .i64 0, .int .i64 0, .int .i64 0, .int .i64 0, .string (⟨#[]⟩ : ByteArray)]) ?_ 4 _ rfl; (with_reducible repeat (first | refine kN_ ?_ _ | refine kD_ ?_ | refine kA_ ?_ _)); refine blk_put (cs := #[.int .i64 (wrap64 (a0 / 67108864)), .int .i64 0, .int .i64 0, .int .i64 0, .int .i64 0, .string (⟨#[]⟩ : ByteArray)]) ?_ 3 _ rfl; (with_reducible repeat (first | refine kN_ ?_ _ | refine kD_ ?_ | refine kA_ ?_ _)); refine blk_put (cs := #[.int .i64 (wrap64 (a0 / 67108864)), .int .i64 0, .int .i64 0, .int .i64 0, .int .i64 0, .string (⟨#[]⟩ : ByteArray)]) ?_ 2 _ rfl; (with_reducible repeat (first | refine kN_ ?_ _ | refine kD_ ?_ | refine kA_ ?_ _)); refine blk_put (cs := #[.int .i64 (wrap64 (a0 / 67108864)), .int .i64 0, .int .i64 0, .int .i64 0, .int .i64 0, .string (⟨#[]⟩ : ByteArray)]) ?_ 1 _ rfl; (with_reducible repeat (first | refine kN_ ?_ _ | refine kD_ ?_ | refine kA_ ?_ _)); refine blk_put (cs := #[.int .i64 0, .int .i64 0, .int .i64 0, .int .i64 0, .int .i64 0, .string (⟨#[]⟩ : ByteArray)]) ?_ 0 _ rfl; (with_reducible repeat (first | refine kN_ ?_ _ | refine kD_ ?_ | refine kA_ ?_ _)); exact BK171.out) hb); have n2_ := As_.mk (bT_ (by repeat (first | (with_reducible first | exact HB.out | apply bA_ | apply bN_ | apply b1_ | refine bS_ ?_ GE170.out | refine bS_ ?_ GE171.out) | exact HB.out)) hb); clear BK170; clear BK171; clear HB; have BK170 := n0_; have BK171 := n1_; have HB := n2_; clear n0_ n1_ n2_) | ((with_reducible refine gC_ (f := 16) rfl ?_); refine goesL_ (some 35) rfl rfl Try.func16 (by kernel_rfl) rfl #[.int .i64 t173] rfl (by (try simp only [List.map_toArray, List.map_cons, List.map_nil]); first | done | rfl) ?_; (with_reducible refine (r3_HasD.calls t173 t174 _ A5.out).mono ?_); rintro e w' ⟨rfl, ⟨nd, rfl⟩⟩; refine ⟨_, rfl, ?_⟩))
  (try simp only [Act.put, List.setIfInBounds_toArray, List.set_cons_zero, List.set_cons_succ])
  go_cut [] (fun wc => ∃ (kq : Nat) (x172b_5 : Int), As_ (r3_Unword.j0 kq a0 t173 (wrap64 (Go.bits .and .u32 (a0 / 4194304) 15)) (wrap64 (Go.bits .and .u32 (a0 / 262144) 15)) (wrap64 (Go.bits .and .u32 (a0 / 16384) 15)) (wrap64 (a0 / 67108864)) x172b_5 0 0 0 (⟨#[]⟩ : ByteArray) = some (r1, r2, r3, r4, r5, r6, r7)) ∧ As_ (kq ≤ k) ∧ As_ (wc.heap[gb170]? = some (.cells #[.int .i64 0, .int .i64 0, .int .i64 0, .int .i64 0, .int .i64 0, .string (⟨#[]⟩ : ByteArray)] 35 (0, 0))) ∧ As_ (wc.heap[gb171]? = some (.cells #[.int .i64 (wrap64 (a0 / 67108864)), .int .i64 x172b_5, .int .i64 0, .int .i64 0, .int .i64 0, .string (⟨#[]⟩ : ByteArray)] 35 (0, 0))) ∧ As_ (Below w.heap.size w wc))
  case first =>
   have H := HC6.out
   clear HC6
   by_cases c12 : t174 = true
   ·subst c12
    have H1 : (r3_Unword.j0 k a0 t173 (wrap64 (Go.bits .and .u32 (a0 / 4194304) 15)) (wrap64 (Go.bits .and .u32 (a0 / 262144) 15)) (wrap64 (Go.bits .and .u32 (a0 / 16384) 15)) (wrap64 (a0 / 67108864)) (wrap64 (Go.bits .and .u32 (a0 / 4194304) 15)) 0 0 0 (⟨#[]⟩ : ByteArray)) = some (r1, r2, r3, r4, r5, r6, r7) := by rw [if_pos rfl] at H; exact H
    clear H
    have H := H1
    clear H1
    have H' := As_.mk H
    clear H
    have hnb13 := NB171_170.out
    have hnc13 := NB170_171.out
    have hcz14_0 : w11.cell? ⟨gb171, 0, none⟩ = some (.int .i64 (wrap64 (a0 / 67108864))) := (bC_ BK171.out 0).trans rfl
    have hcz14_1 : w11.cell? ⟨gb171, 1, none⟩ = some (.int .i64 0) := (bC_ BK171.out 1).trans rfl
    have hcz14_2 : w11.cell? ⟨gb171, 2, none⟩ = some (.int .i64 0) := (bC_ BK171.out 2).trans rfl
    have hcz14_3 : w11.cell? ⟨gb171, 3, none⟩ = some (.int .i64 0) := (bC_ BK171.out 3).trans rfl
    have hcz14_4 : w11.cell? ⟨gb171, 4, none⟩ = some (.int .i64 0) := (bC_ BK171.out 4).trans rfl
    have hcz14_5 : w11.cell? ⟨gb171, 5, none⟩ = some (.string (⟨#[]⟩ : ByteArray)) := (bC_ BK171.out 5).trans rfl
    have hfz14_0 := bZ_ BK171.out 0
    have hfz14_1 := bZ_ BK171.out 1
    have hfz14_2 := bZ_ BK171.out 2
    have hfz14_3 := bZ_ BK171.out 3
    have hfz14_4 := bZ_ BK171.out 4
    have hfz14_5 := bZ_ BK171.out 5
    go_wp2
    go_meet
    case rel => exact ⟨_, (wrap64 (Go.bits .and .u32 (a0 / 4194304) 15)), H', ⟨by first | omega | exact Nat.le_refl _⟩, ⟨by (with_reducible repeat (first | refine kN_ ?_ _ | refine kD_ ?_ | refine kA_ ?_ _)); refine blk_far ?_ NB170_171.out _; (with_reducible repeat (first | refine kN_ ?_ _ | refine kD_ ?_ | refine kA_ ?_ _)); exact BK170.out⟩, ⟨by (with_reducible repeat (first | refine kN_ ?_ _ | refine kD_ ?_ | refine kA_ ?_ _)); refine blk_put (cs := #[.int .i64 (wrap64 (a0 / 67108864)), .int .i64 0, .int .i64 0, .int .i64 0, .int .i64 0, .string (⟨#[]⟩ : ByteArray)]) ?_ 1 _ rfl; (with_reducible repeat (first | refine kN_ ?_ _ | refine kD_ ?_ | refine kA_ ?_ _)); exact BK171.out⟩, ⟨by repeat (first | (with_reducible first | exact HB.out | apply bA_ | apply bN_ | apply b1_ | refine bS_ ?_ GE170.out | refine bS_ ?_ GE171.out) | exact HB.out)⟩⟩
   replace c12 := Bool.eq_false_iff.mpr c12
   subst c12
   have H1 : (r3_Unword.j0 k a0 t173 (wrap64 (Go.bits .and .u32 (a0 / 4194304) 15)) (wrap64 (Go.bits .and .u32 (a0 / 262144) 15)) (wrap64 (Go.bits .and .u32 (a0 / 16384) 15)) (wrap64 (a0 / 67108864)) 0 0 0 0 (⟨#[]⟩ : ByteArray)) = some (r1, r2, r3, r4, r5, r6, r7) := by rw [if_neg (show ¬ (false = true) by decide)] at H; exact H
   clear H
   have H := H1
   clear H1
   have H' := As_.mk H
   clear H
   go_wp2
   go_meet
   case rel => exact ⟨_, (0), H', ⟨by first | omega | exact Nat.le_refl _⟩, ⟨by (with_reducible repeat (first | refine kN_ ?_ _ | refine kD_ ?_ | refine kA_ ?_ _)); exact BK170.out⟩, ⟨by (with_reducible repeat (first | refine kN_ ?_ _ | refine kD_ ?_ | refine kA_ ?_ _)); exact BK171.out⟩, ⟨by repeat (first | (with_reducible first | exact HB.out | apply bA_ | apply bN_ | apply b1_ | refine bS_ ?_ GE170.out | refine bS_ ?_ GE171.out) | exact HB.out)⟩⟩
  case rest =>
   clear HC6
   obtain ⟨kq, x172b_5, HA, HJ5, BK170, BK171, HB⟩ := hcut
   cases kq with
   | zero => exact absurd HA.out (by simp [r3_Unword.j0])
   | succ kj5 =>
    have H := HA.out
    clear HA
    simp only [r3_Unword.j0] at H
    replace H := Option.bind_eq_some_iff.mp H
    obtain ⟨t175, A150, H⟩ := H
    replace H : (if t175 = true then (r3_Unword.j1 kj5 a0 t173 (wrap64 (Go.bits .and .u32 (a0 / 4194304) 15)) (wrap64 (Go.bits .and .u32 (a0 / 16384) 15)) (wrap64 (a0 / 67108864)) x172b_5 (wrap64 (Go.bits .and .u32 (a0 / 262144) 15)) 0 0 (⟨#[]⟩ : ByteArray)) else (r3_Unword.j1 kj5 a0 t173 (wrap64 (Go.bits .and .u32 (a0 / 4194304) 15)) (wrap64 (Go.bits .and .u32 (a0 / 16384) 15)) (wrap64 (a0 / 67108864)) x172b_5 0 0 0 (⟨#[]⟩ : ByteArray))) = some (r1, r2, r3, r4, r5, r6, r7) := H
    have A15 := As_.mk A150
    clear A150
    have HC16 := As_.mk H
    clear H
    go_upto_if 39 with (first | ((with_reducible refine gC_ (f := 17) rfl ?_); refine goesL_ (some 39) rfl rfl Try.func17 (by kernel_rfl) rfl #[.int .i64 t173] rfl (by (try simp only [List.map_toArray, List.map_cons, List.map_nil]); first | done | rfl) ?_; (with_reducible refine (r3_HasA.calls t173 t175 _ A15.out).mono ?_); rintro e w' ⟨rfl, ⟨nd, rfl⟩⟩; refine ⟨_, rfl, ?_⟩))
    (try simp only [Act.put, List.setIfInBounds_toArray, List.set_cons_zero, List.set_cons_succ])
    go_cut [] (fun wc => ∃ (kq : Nat) (x172c_15 : Int), As_ (r3_Unword.j1 kq a0 t173 (wrap64 (Go.bits .and .u32 (a0 / 4194304) 15)) (wrap64 (Go.bits .and .u32 (a0 / 16384) 15)) (wrap64 (a0 / 67108864)) x172b_5 x172c_15 0 0 (⟨#[]⟩ : ByteArray) = some (r1, r2, r3, r4, r5, r6, r7)) ∧ As_ (kq ≤ kj5) ∧ As_ (wc.heap[gb170]? = some (.cells #[.int .i64 0, .int .i64 0, .int .i64 0, .int .i64 0, .int .i64 0, .string (⟨#[]⟩ : ByteArray)] 35 (0, 0))) ∧ As_ (wc.heap[gb171]? = some (.cells #[.int .i64 (wrap64 (a0 / 67108864)), .int .i64 x172b_5, .int .i64 x172c_15, .int .i64 0, .int .i64 0, .string (⟨#[]⟩ : ByteArray)] 35 (0, 0))) ∧ As_ (Below w.heap.size w wc))
    case first =>
     have H := HC16.out
     clear HC16
     by_cases c17 : t175 = true
     ·subst c17
      have H1 : (r3_Unword.j1 kj5 a0 t173 (wrap64 (Go.bits .and .u32 (a0 / 4194304) 15)) (wrap64 (Go.bits .and .u32 (a0 / 16384) 15)) (wrap64 (a0 / 67108864)) x172b_5 (wrap64 (Go.bits .and .u32 (a0 / 262144) 15)) 0 0 (⟨#[]⟩ : ByteArray)) = some (r1, r2, r3, r4, r5, r6, r7) := by rw [if_pos rfl] at H; exact H
      clear H
      have H := H1
      clear H1
      have H' := As_.mk H
      clear H
      have hnb18 := NB171_170.out
      have hnc18 := NB170_171.out
      have hcz19_0 : wc.cell? ⟨gb171, 0, none⟩ = some (.int .i64 (wrap64 (a0 / 67108864))) := (bC_ BK171.out 0).trans rfl
      have hcz19_1 : wc.cell? ⟨gb171, 1, none⟩ = some (.int .i64 x172b_5) := (bC_ BK171.out 1).trans rfl
      have hcz19_2 : wc.cell? ⟨gb171, 2, none⟩ = some (.int .i64 0) := (bC_ BK171.out 2).trans rfl
      have hcz19_3 : wc.cell? ⟨gb171, 3, none⟩ = some (.int .i64 0) := (bC_ BK171.out 3).trans rfl
      have hcz19_4 : wc.cell? ⟨gb171, 4, none⟩ = some (.int .i64 0) := (bC_ BK171.out 4).trans rfl
      have hcz19_5 : wc.cell? ⟨gb171, 5, none⟩ = some (.string (⟨#[]⟩ : ByteArray)) := (bC_ BK171.out 5).trans rfl
      have hfz19_0 := bZ_ BK171.out 0
      have hfz19_1 := bZ_ BK171.out 1
      have hfz19_2 := bZ_ BK171.out 2
      have hfz19_3 := bZ_ BK171.out 3
      have hfz19_4 := bZ_ BK171.out 4
      have hfz19_5 := bZ_ BK171.out 5
      go_wp2
      go_meet
      case rel => exact ⟨_, ((wrap64 (Go.bits .and .u32 (a0 / 262144) 15))), H', ⟨by have := HJ5.out; first | omega | exact Nat.le_refl _⟩, ⟨by (with_reducible repeat (first | refine kN_ ?_ _ | refine kD_ ?_ | refine kA_ ?_ _)); refine blk_far ?_ NB170_171.out _; (with_reducible repeat (first | refine kN_ ?_ _ | refine kD_ ?_ | refine kA_ ?_ _)); exact BK170.out⟩, ⟨by (with_reducible repeat (first | refine kN_ ?_ _ | refine kD_ ?_ | refine kA_ ?_ _)); refine blk_put (cs := #[.int .i64 (wrap64 (a0 / 67108864)), .int .i64 x172b_5, .int .i64 0, .int .i64 0, .int .i64 0, .string (⟨#[]⟩ : ByteArray)]) ?_ 2 _ rfl; (with_reducible repeat (first | refine kN_ ?_ _ | refine kD_ ?_ | refine kA_ ?_ _)); exact BK171.out⟩, ⟨by repeat (first | (with_reducible first | exact HB.out | apply bA_ | apply bN_ | apply b1_ | refine bS_ ?_ GE170.out | refine bS_ ?_ GE171.out) | exact HB.out)⟩⟩
     replace c17 := Bool.eq_false_iff.mpr c17
     subst c17
     have H1 : (r3_Unword.j1 kj5 a0 t173 (wrap64 (Go.bits .and .u32 (a0 / 4194304) 15)) (wrap64 (Go.bits .and .u32 (a0 / 16384) 15)) (wrap64 (a0 / 67108864)) x172b_5 0 0 0 (⟨#[]⟩ : ByteArray)) = some (r1, r2, r3, r4, r5, r6, r7) := by rw [if_neg (show ¬ (false = true) by decide)] at H; exact H
     clear H
     have H := H1
     clear H1
     have H' := As_.mk H
     clear H
     go_wp2
     go_meet
     case rel => exact ⟨_, (0), H', ⟨by have := HJ5.out; first | omega | exact Nat.le_refl _⟩, ⟨by (with_reducible repeat (first | refine kN_ ?_ _ | refine kD_ ?_ | refine kA_ ?_ _)); exact BK170.out⟩, ⟨by (with_reducible repeat (first | refine kN_ ?_ _ | refine kD_ ?_ | refine kA_ ?_ _)); exact BK171.out⟩, ⟨by repeat (first | (with_reducible first | exact HB.out | apply bA_ | apply bN_ | apply b1_ | refine bS_ ?_ GE170.out | refine bS_ ?_ GE171.out) | exact HB.out)⟩⟩
    case rest =>
     clear HC16
     obtain ⟨kq, x172c_15, HA, HJ15, BK170, BK171, HB⟩ := hcut
     cases kq with
     | zero => exact absurd HA.out (by simp [r3_Unword.j1])
     | succ kj15 =>
      have H := HA.out
      clear HA
      simp only [r3_Unword.j1] at H
      have HC20 := As_.mk H
      clear H
      go_upto_if 43 with (fail)
      go_cut [] (fun wc => ∃ (kq : Nat) (x172d_19 : Int), As_ (r3_Unword.j2 kq a0 t173 (wrap64 (Go.bits .and .u32 (a0 / 4194304) 15)) (wrap64 (a0 / 67108864)) x172b_5 x172c_15 x172d_19 0 (⟨#[]⟩ : ByteArray) = some (r1, r2, r3, r4, r5, r6, r7)) ∧ As_ (kq ≤ kj15) ∧ As_ (wc.heap[gb170]? = some (.cells #[.int .i64 0, .int .i64 0, .int .i64 0, .int .i64 0, .int .i64 0, .string (⟨#[]⟩ : ByteArray)] 35 (0, 0))) ∧ As_ (wc.heap[gb171]? = some (.cells #[.int .i64 (wrap64 (a0 / 67108864)), .int .i64 x172b_5, .int .i64 x172c_15, .int .i64 x172d_19, .int .i64 0, .string (⟨#[]⟩ : ByteArray)] 35 (0, 0))) ∧ As_ (Below w.heap.size w wc))
      case first =>
       have H := HC20.out
       clear HC20
       by_cases c21 : t173 = 1
       ·rw [if_pos c21] at H
        have c21b0 : (t173 == 1) = true := beq_iff_eq.mpr c21
        have c21b1 : (t173 != 1) = false := bne_eq_false_iff_eq.mpr c21
        clear c21
        (first | rw [c21b0] | (simp only [i64_w, i32_w]; rw [c21b0]) | skip)
        have H' := As_.mk H
        clear H
        have hnb22 := NB171_170.out
        have hnc22 := NB170_171.out
        have hcz23_0 : wc.cell? ⟨gb171, 0, none⟩ = some (.int .i64 (wrap64 (a0 / 67108864))) := (bC_ BK171.out 0).trans rfl
        have hcz23_1 : wc.cell? ⟨gb171, 1, none⟩ = some (.int .i64 x172b_5) := (bC_ BK171.out 1).trans rfl
        have hcz23_2 : wc.cell? ⟨gb171, 2, none⟩ = some (.int .i64 x172c_15) := (bC_ BK171.out 2).trans rfl
        have hcz23_3 : wc.cell? ⟨gb171, 3, none⟩ = some (.int .i64 0) := (bC_ BK171.out 3).trans rfl
        have hcz23_4 : wc.cell? ⟨gb171, 4, none⟩ = some (.int .i64 0) := (bC_ BK171.out 4).trans rfl
        have hcz23_5 : wc.cell? ⟨gb171, 5, none⟩ = some (.string (⟨#[]⟩ : ByteArray)) := (bC_ BK171.out 5).trans rfl
        have hfz23_0 := bZ_ BK171.out 0
        have hfz23_1 := bZ_ BK171.out 1
        have hfz23_2 := bZ_ BK171.out 2
        have hfz23_3 := bZ_ BK171.out 3
        have hfz23_4 := bZ_ BK171.out 4
        have hfz23_5 := bZ_ BK171.out 5
        go_wp2
        go_meet
        case rel => exact ⟨_, ((wrap64 (Go.bits .and .u32 (a0 / 16384) 15))), H', ⟨by have := HJ5.out; have := HJ15.out; first | omega | exact Nat.le_refl _⟩, ⟨by (with_reducible repeat (first | refine kN_ ?_ _ | refine kD_ ?_ | refine kA_ ?_ _)); refine blk_far ?_ NB170_171.out _; (with_reducible repeat (first | refine kN_ ?_ _ | refine kD_ ?_ | refine kA_ ?_ _)); exact BK170.out⟩, ⟨by (with_reducible repeat (first | refine kN_ ?_ _ | refine kD_ ?_ | refine kA_ ?_ _)); refine blk_put (cs := #[.int .i64 (wrap64 (a0 / 67108864)), .int .i64 x172b_5, .int .i64 x172c_15, .int .i64 0, .int .i64 0, .string (⟨#[]⟩ : ByteArray)]) ?_ 3 _ rfl; (with_reducible repeat (first | refine kN_ ?_ _ | refine kD_ ?_ | refine kA_ ?_ _)); exact BK171.out⟩, ⟨by repeat (first | (with_reducible first | exact HB.out | apply bA_ | apply bN_ | apply b1_ | refine bS_ ?_ GE170.out | refine bS_ ?_ GE171.out) | exact HB.out)⟩⟩
       rw [if_neg c21] at H
       have c21b0 : (t173 == 1) = false := beq_eq_false_iff_ne.mpr c21
       have c21b1 : (t173 != 1) = true := bne_iff_ne.mpr c21
       (first | rw [c21b0] | (simp only [i64_w, i32_w]; rw [c21b0]) | skip)
       have H' := As_.mk H
       clear H
       go_wp2
       go_meet
       case rel => exact ⟨_, (0), H', ⟨by have := HJ5.out; have := HJ15.out; first | omega | exact Nat.le_refl _⟩, ⟨by (with_reducible repeat (first | refine kN_ ?_ _ | refine kD_ ?_ | refine kA_ ?_ _)); exact BK170.out⟩, ⟨by (with_reducible repeat (first | refine kN_ ?_ _ | refine kD_ ?_ | refine kA_ ?_ _)); exact BK171.out⟩, ⟨by repeat (first | (with_reducible first | exact HB.out | apply bA_ | apply bN_ | apply b1_ | refine bS_ ?_ GE170.out | refine bS_ ?_ GE171.out) | exact HB.out)⟩⟩
      case rest =>
       clear HC20
       obtain ⟨kq, x172d_19, HA, HJ19, BK170, BK171, HB⟩ := hcut
       cases kq with
       | zero => exact absurd HA.out (by simp [r3_Unword.j2])
       | succ kj19 =>
        have H := HA.out
        clear HA
        simp only [r3_Unword.j2] at H
        have HC24 := As_.mk H
        clear H
        go_upto_if 47 with (fail)
        go_cut [] (fun wc => ∃ (kq : Nat) (x172d_23 : Int), As_ (r3_Unword.j3 kq a0 t173 (wrap64 (a0 / 67108864)) x172b_5 x172c_15 x172d_23 0 (⟨#[]⟩ : ByteArray) = some (r1, r2, r3, r4, r5, r6, r7)) ∧ As_ (kq ≤ kj19) ∧ As_ (wc.heap[gb170]? = some (.cells #[.int .i64 0, .int .i64 0, .int .i64 0, .int .i64 0, .int .i64 0, .string (⟨#[]⟩ : ByteArray)] 35 (0, 0))) ∧ As_ (wc.heap[gb171]? = some (.cells #[.int .i64 (wrap64 (a0 / 67108864)), .int .i64 x172b_5, .int .i64 x172c_15, .int .i64 x172d_23, .int .i64 0, .string (⟨#[]⟩ : ByteArray)] 35 (0, 0))) ∧ As_ (Below w.heap.size w wc))
        case first =>
         have H := HC24.out
         clear HC24
         by_cases c25 : t173 = 5
         ·rw [if_pos c25] at H
          have c25b0 : (t173 == 5) = true := beq_iff_eq.mpr c25
          have c25b1 : (t173 != 5) = false := bne_eq_false_iff_eq.mpr c25
          clear c25
          (first | rw [c25b0] | (simp only [i64_w, i32_w]; rw [c25b0]) | skip)
          have H' := As_.mk H
          clear H
          have hnb26 := NB171_170.out
          have hnc26 := NB170_171.out
          have hcz27_0 : wc.cell? ⟨gb171, 0, none⟩ = some (.int .i64 (wrap64 (a0 / 67108864))) := (bC_ BK171.out 0).trans rfl
          have hcz27_1 : wc.cell? ⟨gb171, 1, none⟩ = some (.int .i64 x172b_5) := (bC_ BK171.out 1).trans rfl
          have hcz27_2 : wc.cell? ⟨gb171, 2, none⟩ = some (.int .i64 x172c_15) := (bC_ BK171.out 2).trans rfl
          have hcz27_3 : wc.cell? ⟨gb171, 3, none⟩ = some (.int .i64 x172d_19) := (bC_ BK171.out 3).trans rfl
          have hcz27_4 : wc.cell? ⟨gb171, 4, none⟩ = some (.int .i64 0) := (bC_ BK171.out 4).trans rfl
          have hcz27_5 : wc.cell? ⟨gb171, 5, none⟩ = some (.string (⟨#[]⟩ : ByteArray)) := (bC_ BK171.out 5).trans rfl
          have hfz27_0 := bZ_ BK171.out 0
          have hfz27_1 := bZ_ BK171.out 1
          have hfz27_2 := bZ_ BK171.out 2
          have hfz27_3 := bZ_ BK171.out 3
          have hfz27_4 := bZ_ BK171.out 4
          have hfz27_5 := bZ_ BK171.out 5
          go_wp2
          go_meet
          case rel => exact ⟨_, ((wrap64 (Go.bits .and .u32 (a0 / 4194304) 15))), H', ⟨by have := HJ5.out; have := HJ15.out; have := HJ19.out; first | omega | exact Nat.le_refl _⟩, ⟨by (with_reducible repeat (first | refine kN_ ?_ _ | refine kD_ ?_ | refine kA_ ?_ _)); refine blk_far ?_ NB170_171.out _; (with_reducible repeat (first | refine kN_ ?_ _ | refine kD_ ?_ | refine kA_ ?_ _)); exact BK170.out⟩, ⟨by (with_reducible repeat (first | refine kN_ ?_ _ | refine kD_ ?_ | refine kA_ ?_ _)); refine blk_put (cs := #[.int .i64 (wrap64 (a0 / 67108864)), .int .i64 x172b_5, .int .i64 x172c_15, .int .i64 x172d_19, .int .i64 0, .string (⟨#[]⟩ : ByteArray)]) ?_ 3 _ rfl; (with_reducible repeat (first | refine kN_ ?_ _ | refine kD_ ?_ | refine kA_ ?_ _)); exact BK171.out⟩, ⟨by repeat (first | (with_reducible first | exact HB.out | apply bA_ | apply bN_ | apply b1_ | refine bS_ ?_ GE170.out | refine bS_ ?_ GE171.out) | exact HB.out)⟩⟩
         rw [if_neg c25] at H
         have c25b0 : (t173 == 5) = false := beq_eq_false_iff_ne.mpr c25
         have c25b1 : (t173 != 5) = true := bne_iff_ne.mpr c25
         (first | rw [c25b0] | (simp only [i64_w, i32_w]; rw [c25b0]) | skip)
         have H' := As_.mk H
         clear H
         go_wp2
         go_meet
         case rel => exact ⟨_, (x172d_19), H', ⟨by have := HJ5.out; have := HJ15.out; have := HJ19.out; first | omega | exact Nat.le_refl _⟩, ⟨by (with_reducible repeat (first | refine kN_ ?_ _ | refine kD_ ?_ | refine kA_ ?_ _)); exact BK170.out⟩, ⟨by (with_reducible repeat (first | refine kN_ ?_ _ | refine kD_ ?_ | refine kA_ ?_ _)); exact BK171.out⟩, ⟨by repeat (first | (with_reducible first | exact HB.out | apply bA_ | apply bN_ | apply b1_ | refine bS_ ?_ GE170.out | refine bS_ ?_ GE171.out) | exact HB.out)⟩⟩
        case rest =>
         clear HC24
         obtain ⟨kq, x172d_23, HA, HJ23, BK170, BK171, HB⟩ := hcut
         cases kq with
         | zero => exact absurd HA.out (by simp [r3_Unword.j3])
         | succ kj23 =>
          have H := HA.out
          clear HA
          simp only [r3_Unword.j3] at H
          replace H := Option.bind_eq_some_iff.mp H
          obtain ⟨t176, A280, H⟩ := H
          replace H : (if t176 > 0 then (if 0 ≤ t176 then ((r3_Target.f t173).bind fun t177 => (if t177 = true then (r3_Unword.j4 kj23 a0 (wrap64 (a0 / 67108864)) x172b_5 x172c_15 x172d_23 (wrap64 (Go.bits .and .u32 a0 (((shl .u32 1 t176) - 1) % 4294967296))) (⟨#[]⟩ : ByteArray)) else ((r1_Sign.f ((wrap64 (Go.bits .and .u32 a0 (((shl .u32 1 t176) - 1) % 4294967296))) % 4294967296) t176).bind fun t178 => (r3_Unword.j4 kj23 a0 (wrap64 (a0 / 67108864)) x172b_5 x172c_15 x172d_23 t178 (⟨#[]⟩ : ByteArray))))) else (none)) else (r3_Unword.j4 kj23 a0 (wrap64 (a0 / 67108864)) x172b_5 x172c_15 x172d_23 0 (⟨#[]⟩ : ByteArray))) = some (r1, r2, r3, r4, r5, r6, r7) := H
          have A28 := As_.mk A280
          clear A280
          have HC29 := As_.mk H
          clear H
          go_upto_if 53 with (first | ((with_reducible refine gC_ (f := 19) rfl ?_); refine goesL_ (some 51) rfl rfl Try.func19 (by kernel_rfl) rfl #[.int .i64 t173] rfl (by (try simp only [List.map_toArray, List.map_cons, List.map_nil]); first | done | rfl) ?_; (with_reducible refine (r3_Bits.calls kj23 t173 t176 _ A28.out).mono ?_); rintro e w' ⟨rfl, ⟨nd, rfl⟩⟩; refine ⟨_, rfl, ?_⟩))
          (try simp only [Act.put, List.setIfInBounds_toArray, List.set_cons_zero, List.set_cons_succ])
          go_cut [] (fun wc => ∃ (kq : Nat) (x172e_28 : Int), As_ (r3_Unword.j4 kq a0 (wrap64 (a0 / 67108864)) x172b_5 x172c_15 x172d_23 x172e_28 (⟨#[]⟩ : ByteArray) = some (r1, r2, r3, r4, r5, r6, r7)) ∧ As_ (kq ≤ kj23) ∧ As_ (wc.heap[gb170]? = some (.cells #[.int .i64 0, .int .i64 0, .int .i64 0, .int .i64 0, .int .i64 0, .string (⟨#[]⟩ : ByteArray)] 35 (0, 0))) ∧ As_ (wc.heap[gb171]? = some (.cells #[.int .i64 (wrap64 (a0 / 67108864)), .int .i64 x172b_5, .int .i64 x172c_15, .int .i64 x172d_23, .int .i64 x172e_28, .string (⟨#[]⟩ : ByteArray)] 35 (0, 0))) ∧ As_ (Below w.heap.size w wc))
          case first =>
           have H := HC29.out
           clear HC29
           by_cases c30 : t176 > 0
           ·rw [if_pos c30] at H
            have c30b0 : decide (0 < t176) = true := decide_eq_true c30
            clear c30
            (first | rw [c30b0] | (simp only [i64_w, i32_w]; rw [c30b0]) | skip)
            by_cases c31 : 0 ≤ t176
            ·rw [if_pos c31] at H
             have c31b0 := eq_true c31
             have c31b1 : decide (0 ≤ t176) = true := decide_eq_true c31
             clear c31
             obtain ⟨ji32, hji32⟩ : ∃ j_ : Int, (shl .u32 1 t176) = j_ := ⟨_, rfl⟩
             replace H : ((r3_Target.f t173).bind fun t177 => (if t177 = true then (r3_Unword.j4 kj23 a0 (wrap64 (a0 / 67108864)) x172b_5 x172c_15 x172d_23 (wrap64 (Go.bits .and .u32 a0 (((ji32) - 1) % 4294967296))) (⟨#[]⟩ : ByteArray)) else ((r1_Sign.f ((wrap64 (Go.bits .and .u32 a0 (((ji32) - 1) % 4294967296))) % 4294967296) t176).bind fun t178 => (r3_Unword.j4 kj23 a0 (wrap64 (a0 / 67108864)) x172b_5 x172c_15 x172d_23 t178 (⟨#[]⟩ : ByteArray))))) = some (r1, r2, r3, r4, r5, r6, r7) := by first | (rw [hji32] at H; exact H) | (simp only [hji32] at H ⊢; exact H)
             have hji32_ : (IntKind.u32.wrap (1 * 2 ^ min t176.toNat 32)) = ji32 := hji32
             have hji32z : t176 ≤ 32 → (IntKind.u32.wrap (1 * 2 ^ t176.toNat)) = ji32 := shl_small hji32
             have hji32u : (IntKind.u32.wrap (2 ^ min t176.toNat 32)) = ji32 := by have h_ := hji32_; rw [Int.one_mul] at h_; exact h_
             have hji32v : t176 ≤ 32 → (IntKind.u32.wrap (2 ^ t176.toNat)) = ji32 := fun hle_ => by have h_ := hji32z hle_; rw [Int.one_mul] at h_; exact h_
             replace H := Option.bind_eq_some_iff.mp H
             obtain ⟨t177, A330, H⟩ := H
             replace H : (if t177 = true then (r3_Unword.j4 kj23 a0 (wrap64 (a0 / 67108864)) x172b_5 x172c_15 x172d_23 (wrap64 (Go.bits .and .u32 a0 (((ji32) - 1) % 4294967296))) (⟨#[]⟩ : ByteArray)) else ((r1_Sign.f ((wrap64 (Go.bits .and .u32 a0 (((ji32) - 1) % 4294967296))) % 4294967296) t176).bind fun t178 => (r3_Unword.j4 kj23 a0 (wrap64 (a0 / 67108864)) x172b_5 x172c_15 x172d_23 t178 (⟨#[]⟩ : ByteArray)))) = some (r1, r2, r3, r4, r5, r6, r7) := H
             have A33 := As_.mk A330
             clear A330
             by_cases c34 : t177 = true
             ·subst c34
              have H1 : (r3_Unword.j4 kj23 a0 (wrap64 (a0 / 67108864)) x172b_5 x172c_15 x172d_23 (wrap64 (Go.bits .and .u32 a0 (((ji32) - 1) % 4294967296))) (⟨#[]⟩ : ByteArray)) = some (r1, r2, r3, r4, r5, r6, r7) := by rw [if_pos rfl] at H; exact H
              clear H
              have H := H1
              clear H1
              have H' := As_.mk H
              clear H
              have hnb35 := NB171_170.out
              have hnc35 := NB170_171.out
              have hcz36_0 : wc.cell? ⟨gb171, 0, none⟩ = some (.int .i64 (wrap64 (a0 / 67108864))) := (bC_ BK171.out 0).trans rfl
              have hcz36_1 : wc.cell? ⟨gb171, 1, none⟩ = some (.int .i64 x172b_5) := (bC_ BK171.out 1).trans rfl
              have hcz36_2 : wc.cell? ⟨gb171, 2, none⟩ = some (.int .i64 x172c_15) := (bC_ BK171.out 2).trans rfl
              have hcz36_3 : wc.cell? ⟨gb171, 3, none⟩ = some (.int .i64 x172d_23) := (bC_ BK171.out 3).trans rfl
              have hcz36_4 : wc.cell? ⟨gb171, 4, none⟩ = some (.int .i64 0) := (bC_ BK171.out 4).trans rfl
              have hcz36_5 : wc.cell? ⟨gb171, 5, none⟩ = some (.string (⟨#[]⟩ : ByteArray)) := (bC_ BK171.out 5).trans rfl
              have hfz36_0 := bZ_ BK171.out 0
              have hfz36_1 := bZ_ BK171.out 1
              have hfz36_2 := bZ_ BK171.out 2
              have hfz36_3 := bZ_ BK171.out 3
              have hfz36_4 := bZ_ BK171.out 4
              have hfz36_5 := bZ_ BK171.out 5
              go_wp2_with (first | ((with_reducible refine gC_ (f := 20) rfl ?_); refine goesL_ (some 62) rfl rfl Try.func20 (by kernel_rfl) rfl #[.int .i64 t173] rfl (by (try simp only [List.map_toArray, List.map_cons, List.map_nil]); first | done | rfl) ?_; (with_reducible refine (r3_Target.calls t173 true _ A33.out).mono ?_); rintro e w' ⟨rfl, ⟨nd, rfl⟩⟩; refine ⟨_, rfl, ?_⟩))
              go_meet
              case rel => exact ⟨_, (wrap64 (Go.bits .and .u32 a0 (((ji32) - 1) % 4294967296))), H', ⟨by have := HJ5.out; have := HJ15.out; have := HJ19.out; have := HJ23.out; first | omega | exact Nat.le_refl _⟩, ⟨by (with_reducible repeat (first | refine kN_ ?_ _ | refine kD_ ?_ | refine kA_ ?_ _)); refine blk_far ?_ NB170_171.out _; (with_reducible repeat (first | refine kN_ ?_ _ | refine kD_ ?_ | refine kA_ ?_ _)); exact BK170.out⟩, ⟨by (with_reducible repeat (first | refine kN_ ?_ _ | refine kD_ ?_ | refine kA_ ?_ _)); refine blk_put (cs := #[.int .i64 (wrap64 (a0 / 67108864)), .int .i64 x172b_5, .int .i64 x172c_15, .int .i64 x172d_23, .int .i64 0, .string (⟨#[]⟩ : ByteArray)]) ?_ 4 _ rfl; (with_reducible repeat (first | refine kN_ ?_ _ | refine kD_ ?_ | refine kA_ ?_ _)); exact BK171.out⟩, ⟨by repeat (first | (with_reducible first | exact HB.out | apply bA_ | apply bN_ | apply b1_ | refine bS_ ?_ GE170.out | refine bS_ ?_ GE171.out) | exact HB.out)⟩⟩
             replace c34 := Bool.eq_false_iff.mpr c34
             subst c34
             have H1 : ((r1_Sign.f ((wrap64 (Go.bits .and .u32 a0 (((ji32) - 1) % 4294967296))) % 4294967296) t176).bind fun t178 => (r3_Unword.j4 kj23 a0 (wrap64 (a0 / 67108864)) x172b_5 x172c_15 x172d_23 t178 (⟨#[]⟩ : ByteArray))) = some (r1, r2, r3, r4, r5, r6, r7) := by rw [if_neg (show ¬ (false = true) by decide)] at H; exact H
             clear H
             have H := H1
             clear H1
             replace H := Option.bind_eq_some_iff.mp H
             obtain ⟨t178, A370, H⟩ := H
             replace H : (r3_Unword.j4 kj23 a0 (wrap64 (a0 / 67108864)) x172b_5 x172c_15 x172d_23 t178 (⟨#[]⟩ : ByteArray)) = some (r1, r2, r3, r4, r5, r6, r7) := H
             have A37 := As_.mk A370
             clear A370
             have H' := As_.mk H
             clear H
             have hnb38 := NB171_170.out
             have hnc38 := NB170_171.out
             have hcz39_0 : wc.cell? ⟨gb171, 0, none⟩ = some (.int .i64 (wrap64 (a0 / 67108864))) := (bC_ BK171.out 0).trans rfl
             have hcz39_1 : wc.cell? ⟨gb171, 1, none⟩ = some (.int .i64 x172b_5) := (bC_ BK171.out 1).trans rfl
             have hcz39_2 : wc.cell? ⟨gb171, 2, none⟩ = some (.int .i64 x172c_15) := (bC_ BK171.out 2).trans rfl
             have hcz39_3 : wc.cell? ⟨gb171, 3, none⟩ = some (.int .i64 x172d_23) := (bC_ BK171.out 3).trans rfl
             have hcz39_4 : wc.cell? ⟨gb171, 4, none⟩ = some (.int .i64 0) := (bC_ BK171.out 4).trans rfl
             have hcz39_5 : wc.cell? ⟨gb171, 5, none⟩ = some (.string (⟨#[]⟩ : ByteArray)) := (bC_ BK171.out 5).trans rfl
             have hfz39_0 := bZ_ BK171.out 0
             have hfz39_1 := bZ_ BK171.out 1
             have hfz39_2 := bZ_ BK171.out 2
             have hfz39_3 := bZ_ BK171.out 3
             have hfz39_4 := bZ_ BK171.out 4
             have hfz39_5 := bZ_ BK171.out 5
             go_wp2_with (first | ((with_reducible refine gC_ (f := 20) rfl ?_); refine goesL_ (some 62) rfl rfl Try.func20 (by kernel_rfl) rfl #[.int .i64 t173] rfl (by (try simp only [List.map_toArray, List.map_cons, List.map_nil]); first | done | rfl) ?_; (with_reducible refine (r3_Target.calls t173 false _ A33.out).mono ?_); rintro e w' ⟨rfl, ⟨nd, rfl⟩⟩; refine ⟨_, rfl, ?_⟩) | ((with_reducible refine gC_ (f := 43) rfl ?_); refine goesL_ (some 68) rfl rfl Try.func43 (by kernel_rfl) rfl #[.int .u32 ((wrap64 (Go.bits .and .u32 a0 (((ji32) - 1) % 4294967296))) % 4294967296), .int .i64 t176] rfl (by (try simp only [List.map_toArray, List.map_cons, List.map_nil]); first | done | (simp only [hji32]; rfl) | rfl | (simp only [List.length_drop, List.length_take]; rfl)) ?_; (with_reducible refine (r1_Sign.calls ((wrap64 (Go.bits .and .u32 a0 (((ji32) - 1) % 4294967296))) % 4294967296) t176 t178 _ A37.out).mono ?_); rintro e w' ⟨rfl, ⟨nd, rfl⟩⟩; refine ⟨_, rfl, ?_⟩))
             go_meet
             case rel => exact ⟨_, (t178), H', ⟨by have := HJ5.out; have := HJ15.out; have := HJ19.out; have := HJ23.out; first | omega | exact Nat.le_refl _⟩, ⟨by (with_reducible repeat (first | refine kN_ ?_ _ | refine kD_ ?_ | refine kA_ ?_ _)); refine blk_far ?_ NB170_171.out _; (with_reducible repeat (first | refine kN_ ?_ _ | refine kD_ ?_ | refine kA_ ?_ _)); refine blk_far ?_ NB170_171.out _; (with_reducible repeat (first | refine kN_ ?_ _ | refine kD_ ?_ | refine kA_ ?_ _)); exact BK170.out⟩, ⟨by (with_reducible repeat (first | refine kN_ ?_ _ | refine kD_ ?_ | refine kA_ ?_ _)); refine blk_put (cs := #[.int .i64 (wrap64 (a0 / 67108864)), .int .i64 x172b_5, .int .i64 x172c_15, .int .i64 x172d_23, .int .i64 (wrap64 (Go.bits .and .u32 a0 (((ji32) - 1) % 4294967296))), .string (⟨#[]⟩ : ByteArray)]) ?_ 4 _ rfl; (with_reducible repeat (first | refine kN_ ?_ _ | refine kD_ ?_ | refine kA_ ?_ _)); refine blk_put (cs := #[.int .i64 (wrap64 (a0 / 67108864)), .int .i64 x172b_5, .int .i64 x172c_15, .int .i64 x172d_23, .int .i64 0, .string (⟨#[]⟩ : ByteArray)]) ?_ 4 _ rfl; (with_reducible repeat (first | refine kN_ ?_ _ | refine kD_ ?_ | refine kA_ ?_ _)); exact BK171.out⟩, ⟨by repeat (first | (with_reducible first | exact HB.out | apply bA_ | apply bN_ | apply b1_ | refine bS_ ?_ GE170.out | refine bS_ ?_ GE171.out) | exact HB.out)⟩⟩
            rw [if_neg c31] at H
            exact absurd H (by simp)
           rw [if_neg c30] at H
           have c30b0 : decide (0 < t176) = false := decide_eq_false c30
           clear c30
           (first | rw [c30b0] | (simp only [i64_w, i32_w]; rw [c30b0]) | skip)
           have H' := As_.mk H
           clear H
           go_wp2
           go_meet
           case rel => exact ⟨_, (0), H', ⟨by have := HJ5.out; have := HJ15.out; have := HJ19.out; have := HJ23.out; first | omega | exact Nat.le_refl _⟩, ⟨by (with_reducible repeat (first | refine kN_ ?_ _ | refine kD_ ?_ | refine kA_ ?_ _)); exact BK170.out⟩, ⟨by (with_reducible repeat (first | refine kN_ ?_ _ | refine kD_ ?_ | refine kA_ ?_ _)); exact BK171.out⟩, ⟨by repeat (first | (with_reducible first | exact HB.out | apply bA_ | apply bN_ | apply b1_ | refine bS_ ?_ GE170.out | refine bS_ ?_ GE171.out) | exact HB.out)⟩⟩
          case rest =>
           clear HC29
           obtain ⟨kq, x172e_28, HA, HJ28, BK170, BK171, HB⟩ := hcut
           cases kq with
           | zero => exact absurd HA.out (by simp [r3_Unword.j4])
           | succ kj28 =>
            have H := HA.out
            clear HA
            simp only [r3_Unword.j4] at H
            replace H := Option.bind_eq_some_iff.mp H
            obtain ⟨t179, A400, H⟩ := H
            replace H : (if t179 = true then ((r3_Word.f kj28 (wrap64 (a0 / 67108864)) x172b_5 x172c_15 x172d_23 x172e_28 (⟨#[]⟩ : ByteArray)).bind fun t180 => (if t180 = a0 then (some ((wrap64 (a0 / 67108864)), x172b_5, x172c_15, x172d_23, x172e_28, (⟨#[]⟩ : ByteArray), true)) else (some (0, 0, 0, 0, 0, (⟨#[]⟩ : ByteArray), false)))) else (some (0, 0, 0, 0, 0, (⟨#[]⟩ : ByteArray), false))) = some (r1, r2, r3, r4, r5, r6, r7) := H
            have A40 := As_.mk A400
            clear A400
            by_cases c41 : t179 = true
            ·subst c41
             have H1 : ((r3_Word.f kj28 (wrap64 (a0 / 67108864)) x172b_5 x172c_15 x172d_23 x172e_28 (⟨#[]⟩ : ByteArray)).bind fun t180 => (if t180 = a0 then (some ((wrap64 (a0 / 67108864)), x172b_5, x172c_15, x172d_23, x172e_28, (⟨#[]⟩ : ByteArray), true)) else (some (0, 0, 0, 0, 0, (⟨#[]⟩ : ByteArray), false)))) = some (r1, r2, r3, r4, r5, r6, r7) := by rw [if_pos rfl] at H; exact H
             clear H
             have H := H1
             clear H1
             replace H := Option.bind_eq_some_iff.mp H
             obtain ⟨t180, A420, H⟩ := H
             replace H : (if t180 = a0 then (some ((wrap64 (a0 / 67108864)), x172b_5, x172c_15, x172d_23, x172e_28, (⟨#[]⟩ : ByteArray), true)) else (some (0, 0, 0, 0, 0, (⟨#[]⟩ : ByteArray), false))) = some (r1, r2, r3, r4, r5, r6, r7) := H
             have A42 := As_.mk A420
             clear A420
             by_cases c43 : t180 = a0
             ·rw [if_pos c43] at H
              have c43b0 : (t180 == a0) = true := beq_iff_eq.mpr c43
              have c43b1 : (t180 != a0) = false := bne_eq_false_iff_eq.mpr c43
              clear c43
              simp only [Option.some.injEq, Prod.mk.injEq] at H
              obtain ⟨rfl, rfl, rfl, rfl, rfl, rfl, rfl⟩ := H
              have hnb44 := NB171_170.out
              have hnc44 := NB170_171.out
              have hcz45_0 : wc.cell? ⟨gb171, 0, none⟩ = some (.int .i64 (wrap64 (a0 / 67108864))) := (bC_ BK171.out 0).trans rfl
              have hcz45_1 : wc.cell? ⟨gb171, 1, none⟩ = some (.int .i64 x172b_5) := (bC_ BK171.out 1).trans rfl
              have hcz45_2 : wc.cell? ⟨gb171, 2, none⟩ = some (.int .i64 x172c_15) := (bC_ BK171.out 2).trans rfl
              have hcz45_3 : wc.cell? ⟨gb171, 3, none⟩ = some (.int .i64 x172d_23) := (bC_ BK171.out 3).trans rfl
              have hcz45_4 : wc.cell? ⟨gb171, 4, none⟩ = some (.int .i64 x172e_28) := (bC_ BK171.out 4).trans rfl
              have hcz45_5 : wc.cell? ⟨gb171, 5, none⟩ = some (.string (⟨#[]⟩ : ByteArray)) := (bC_ BK171.out 5).trans rfl
              have hfz45_0 := bZ_ BK171.out 0
              have hfz45_1 := bZ_ BK171.out 1
              have hfz45_2 := bZ_ BK171.out 2
              have hfz45_3 := bZ_ BK171.out 3
              have hfz45_4 := bZ_ BK171.out 4
              have hfz45_5 := bZ_ BK171.out 5
              go_wp2_with (first | ((with_reducible refine gC_ (f := 9) rfl ?_); refine goesL_ (some 71) rfl rfl Try.func9 (by kernel_rfl) rfl #[.agg #[.int .i64 (wrap64 (a0 / 67108864)), .int .i64 x172b_5, .int .i64 x172c_15, .int .i64 x172d_23, .int .i64 x172e_28, .string (⟨#[]⟩ : ByteArray)]] rfl (by (try simp only [List.map_toArray, List.map_cons, List.map_nil]); first | done | rfl) ?_; (with_reducible refine (r3_Ins.calls kj28 (wrap64 (a0 / 67108864)) x172b_5 x172c_15 x172d_23 x172e_28 (⟨#[]⟩ : ByteArray) true _ A40.out).mono ?_); rintro e w46 ⟨rfl, hb⟩; refine ⟨_, rfl, ?_⟩; have n0_ := As_.mk (kB_ (g := gb170) (o := .cells #[.int .i64 0, .int .i64 0, .int .i64 0, .int .i64 0, .int .i64 0, .string (⟨#[]⟩ : ByteArray)] 35 (0, 0)) (by (with_reducible repeat (first | refine kN_ ?_ _ | refine kD_ ?_ | refine kA_ ?_ _)); exact BK170.out) hb); have n1_ := As_.mk (kB_ (g := gb171) (o := .cells #[.int .i64 (wrap64 (a0 / 67108864)), .int .i64 x172b_5, .int .i64 x172c_15, .int .i64 x172d_23, .int .i64 x172e_28, .string (⟨#[]⟩ : ByteArray)] 35 (0, 0)) (by (with_reducible repeat (first | refine kN_ ?_ _ | refine kD_ ?_ | refine kA_ ?_ _)); exact BK171.out) hb); have n2_ := As_.mk (bT_ (by repeat (first | (with_reducible first | exact HB.out | apply bA_ | apply bN_ | apply b1_ | refine bS_ ?_ GE170.out | refine bS_ ?_ GE171.out) | exact HB.out)) hb); clear BK170; clear BK171; clear HB; have BK170 := n0_; have BK171 := n1_; have HB := n2_; clear n0_ n1_ n2_; have hcz47_0 : w46.cell? ⟨gb171, 0, none⟩ = some (.int .i64 (wrap64 (a0 / 67108864))) := (bC_ BK171.out 0).trans rfl; have hcz47_1 : w46.cell? ⟨gb171, 1, none⟩ = some (.int .i64 x172b_5) := (bC_ BK171.out 1).trans rfl; have hcz47_2 : w46.cell? ⟨gb171, 2, none⟩ = some (.int .i64 x172c_15) := (bC_ BK171.out 2).trans rfl; have hcz47_3 : w46.cell? ⟨gb171, 3, none⟩ = some (.int .i64 x172d_23) := (bC_ BK171.out 3).trans rfl; have hcz47_4 : w46.cell? ⟨gb171, 4, none⟩ = some (.int .i64 x172e_28) := (bC_ BK171.out 4).trans rfl; have hcz47_5 : w46.cell? ⟨gb171, 5, none⟩ = some (.string (⟨#[]⟩ : ByteArray)) := (bC_ BK171.out 5).trans rfl; have hfz47_0 := bZ_ BK171.out 0; have hfz47_1 := bZ_ BK171.out 1; have hfz47_2 := bZ_ BK171.out 2; have hfz47_3 := bZ_ BK171.out 3; have hfz47_4 := bZ_ BK171.out 4; have hfz47_5 := bZ_ BK171.out 5) | (go_at_call 10; (with_reducible refine (r3_Word.calls kj28 (wrap64 (a0 / 67108864)) x172b_5 x172c_15 x172d_23 x172e_28 (⟨#[]⟩ : ByteArray) t180 _ A42.out).mono ?_); rintro e w48 ⟨rfl, hb⟩; have n0_ := As_.mk (kB_ (g := gb170) (o := .cells #[.int .i64 0, .int .i64 0, .int .i64 0, .int .i64 0, .int .i64 0, .string (⟨#[]⟩ : ByteArray)] 35 (0, 0)) (by (with_reducible repeat (first | refine kN_ ?_ _ | refine kD_ ?_ | refine kA_ ?_ _)); exact BK170.out) hb); have n1_ := As_.mk (kB_ (g := gb171) (o := .cells #[.int .i64 (wrap64 (a0 / 67108864)), .int .i64 x172b_5, .int .i64 x172c_15, .int .i64 x172d_23, .int .i64 x172e_28, .string (⟨#[]⟩ : ByteArray)] 35 (0, 0)) (by (with_reducible repeat (first | refine kN_ ?_ _ | refine kD_ ?_ | refine kA_ ?_ _)); exact BK171.out) hb); have n2_ := As_.mk (bT_ (by repeat (first | (with_reducible first | exact HB.out | apply bA_ | apply bN_ | apply b1_ | refine bS_ ?_ GE170.out | refine bS_ ?_ GE171.out) | exact HB.out)) hb); clear BK170; clear BK171; clear HB; have BK170 := n0_; have BK171 := n1_; have HB := n2_; clear n0_ n1_ n2_; have hcz49_0 : w48.cell? ⟨gb171, 0, none⟩ = some (.int .i64 (wrap64 (a0 / 67108864))) := (bC_ BK171.out 0).trans rfl; have hcz49_1 : w48.cell? ⟨gb171, 1, none⟩ = some (.int .i64 x172b_5) := (bC_ BK171.out 1).trans rfl; have hcz49_2 : w48.cell? ⟨gb171, 2, none⟩ = some (.int .i64 x172c_15) := (bC_ BK171.out 2).trans rfl; have hcz49_3 : w48.cell? ⟨gb171, 3, none⟩ = some (.int .i64 x172d_23) := (bC_ BK171.out 3).trans rfl; have hcz49_4 : w48.cell? ⟨gb171, 4, none⟩ = some (.int .i64 x172e_28) := (bC_ BK171.out 4).trans rfl; have hcz49_5 : w48.cell? ⟨gb171, 5, none⟩ = some (.string (⟨#[]⟩ : ByteArray)) := (bC_ BK171.out 5).trans rfl; have hfz49_0 := bZ_ BK171.out 0; have hfz49_1 := bZ_ BK171.out 1; have hfz49_2 := bZ_ BK171.out 2; have hfz49_3 := bZ_ BK171.out 3; have hfz49_4 := bZ_ BK171.out 4; have hfz49_5 := bZ_ BK171.out 5; have hcz50_0 : w48.cell? ⟨gb170, 0, none⟩ = some (.int .i64 0) := (bC_ BK170.out 0).trans rfl; have hcz50_1 : w48.cell? ⟨gb170, 1, none⟩ = some (.int .i64 0) := (bC_ BK170.out 1).trans rfl; have hcz50_2 : w48.cell? ⟨gb170, 2, none⟩ = some (.int .i64 0) := (bC_ BK170.out 2).trans rfl; have hcz50_3 : w48.cell? ⟨gb170, 3, none⟩ = some (.int .i64 0) := (bC_ BK170.out 3).trans rfl; have hcz50_4 : w48.cell? ⟨gb170, 4, none⟩ = some (.int .i64 0) := (bC_ BK170.out 4).trans rfl; have hcz50_5 : w48.cell? ⟨gb170, 5, none⟩ = some (.string (⟨#[]⟩ : ByteArray)) := (bC_ BK170.out 5).trans rfl; have hfz50_0 := bZ_ BK170.out 0; have hfz50_1 := bZ_ BK170.out 1; have hfz50_2 := bZ_ BK170.out 2; have hfz50_3 := bZ_ BK170.out 3; have hfz50_4 := bZ_ BK170.out 4; have hfz50_5 := bZ_ BK170.out 5))
              refine bodyPost_ret (results_ct rfl _ _ gb170 35 #[.int .i64 (wrap64 (a0 / 67108864)), .int .i64 x172b_5, .int .i64 x172c_15, .int .i64 x172d_23, .int .i64 x172e_28, .string (⟨#[]⟩ : ByteArray)] (0, 0) _ rfl (by (with_reducible repeat (first | refine kN_ ?_ _ | refine kD_ ?_ | refine kA_ ?_ _)); refine blk_put (cs := #[.int .i64 (wrap64 (a0 / 67108864)), .int .i64 x172b_5, .int .i64 x172c_15, .int .i64 x172d_23, .int .i64 x172e_28, .string (⟨#[]⟩ : ByteArray)]) ?_ 5 _ rfl; (with_reducible repeat (first | refine kN_ ?_ _ | refine kD_ ?_ | refine kA_ ?_ _)); refine blk_put (cs := #[.int .i64 (wrap64 (a0 / 67108864)), .int .i64 x172b_5, .int .i64 x172c_15, .int .i64 x172d_23, .int .i64 0, .string (⟨#[]⟩ : ByteArray)]) ?_ 4 _ rfl; (with_reducible repeat (first | refine kN_ ?_ _ | refine kD_ ?_ | refine kA_ ?_ _)); refine blk_put (cs := #[.int .i64 (wrap64 (a0 / 67108864)), .int .i64 x172b_5, .int .i64 x172c_15, .int .i64 0, .int .i64 0, .string (⟨#[]⟩ : ByteArray)]) ?_ 3 _ rfl; (with_reducible repeat (first | refine kN_ ?_ _ | refine kD_ ?_ | refine kA_ ?_ _)); refine blk_put (cs := #[.int .i64 (wrap64 (a0 / 67108864)), .int .i64 x172b_5, .int .i64 0, .int .i64 0, .int .i64 0, .string (⟨#[]⟩ : ByteArray)]) ?_ 2 _ rfl; (with_reducible repeat (first | refine kN_ ?_ _ | refine kD_ ?_ | refine kA_ ?_ _)); refine blk_put (cs := #[.int .i64 (wrap64 (a0 / 67108864)), .int .i64 0, .int .i64 0, .int .i64 0, .int .i64 0, .string (⟨#[]⟩ : ByteArray)]) ?_ 1 _ rfl; (with_reducible repeat (first | refine kN_ ?_ _ | refine kD_ ?_ | refine kA_ ?_ _)); refine blk_put (cs := #[.int .i64 0, .int .i64 0, .int .i64 0, .int .i64 0, .int .i64 0, .string (⟨#[]⟩ : ByteArray)]) ?_ 0 _ rfl; (with_reducible repeat (first | refine kN_ ?_ _ | refine kD_ ?_ | refine kA_ ?_ _)); exact BK170.out) Try.underlying35 rfl (by kernel_rfl)) rfl ?_
              exact ⟨by first | rfl | (simp [eN_, eS_] <;> rfl) | (simp [*, eN_, eS_] <;> rfl), by repeat (first | (with_reducible first | exact HB.out | apply bA_ | apply bN_ | apply b1_ | refine bS_ ?_ GE170.out | refine bS_ ?_ GE171.out) | exact HB.out)⟩
             rw [if_neg c43] at H
             have c43b0 : (t180 == a0) = false := beq_eq_false_iff_ne.mpr c43
             have c43b1 : (t180 != a0) = true := bne_iff_ne.mpr c43
             simp only [Option.some.injEq, Prod.mk.injEq] at H
             obtain ⟨rfl, rfl, rfl, rfl, rfl, rfl, rfl⟩ := H
             have hnb51 := NB171_170.out
             have hnc51 := NB170_171.out
             have hcz52_0 : wc.cell? ⟨gb171, 0, none⟩ = some (.int .i64 (wrap64 (a0 / 67108864))) := (bC_ BK171.out 0).trans rfl
             have hcz52_1 : wc.cell? ⟨gb171, 1, none⟩ = some (.int .i64 x172b_5) := (bC_ BK171.out 1).trans rfl
             have hcz52_2 : wc.cell? ⟨gb171, 2, none⟩ = some (.int .i64 x172c_15) := (bC_ BK171.out 2).trans rfl
             have hcz52_3 : wc.cell? ⟨gb171, 3, none⟩ = some (.int .i64 x172d_23) := (bC_ BK171.out 3).trans rfl
             have hcz52_4 : wc.cell? ⟨gb171, 4, none⟩ = some (.int .i64 x172e_28) := (bC_ BK171.out 4).trans rfl
             have hcz52_5 : wc.cell? ⟨gb171, 5, none⟩ = some (.string (⟨#[]⟩ : ByteArray)) := (bC_ BK171.out 5).trans rfl
             have hfz52_0 := bZ_ BK171.out 0
             have hfz52_1 := bZ_ BK171.out 1
             have hfz52_2 := bZ_ BK171.out 2
             have hfz52_3 := bZ_ BK171.out 3
             have hfz52_4 := bZ_ BK171.out 4
             have hfz52_5 := bZ_ BK171.out 5
             go_wp2_with (first | ((with_reducible refine gC_ (f := 9) rfl ?_); refine goesL_ (some 71) rfl rfl Try.func9 (by kernel_rfl) rfl #[.agg #[.int .i64 (wrap64 (a0 / 67108864)), .int .i64 x172b_5, .int .i64 x172c_15, .int .i64 x172d_23, .int .i64 x172e_28, .string (⟨#[]⟩ : ByteArray)]] rfl (by (try simp only [List.map_toArray, List.map_cons, List.map_nil]); first | done | rfl) ?_; (with_reducible refine (r3_Ins.calls kj28 (wrap64 (a0 / 67108864)) x172b_5 x172c_15 x172d_23 x172e_28 (⟨#[]⟩ : ByteArray) true _ A40.out).mono ?_); rintro e w53 ⟨rfl, hb⟩; refine ⟨_, rfl, ?_⟩; have n0_ := As_.mk (kB_ (g := gb170) (o := .cells #[.int .i64 0, .int .i64 0, .int .i64 0, .int .i64 0, .int .i64 0, .string (⟨#[]⟩ : ByteArray)] 35 (0, 0)) (by (with_reducible repeat (first | refine kN_ ?_ _ | refine kD_ ?_ | refine kA_ ?_ _)); exact BK170.out) hb); have n1_ := As_.mk (kB_ (g := gb171) (o := .cells #[.int .i64 (wrap64 (a0 / 67108864)), .int .i64 x172b_5, .int .i64 x172c_15, .int .i64 x172d_23, .int .i64 x172e_28, .string (⟨#[]⟩ : ByteArray)] 35 (0, 0)) (by (with_reducible repeat (first | refine kN_ ?_ _ | refine kD_ ?_ | refine kA_ ?_ _)); exact BK171.out) hb); have n2_ := As_.mk (bT_ (by repeat (first | (with_reducible first | exact HB.out | apply bA_ | apply bN_ | apply b1_ | refine bS_ ?_ GE170.out | refine bS_ ?_ GE171.out) | exact HB.out)) hb); clear BK170; clear BK171; clear HB; have BK170 := n0_; have BK171 := n1_; have HB := n2_; clear n0_ n1_ n2_; have hcz54_0 : w53.cell? ⟨gb171, 0, none⟩ = some (.int .i64 (wrap64 (a0 / 67108864))) := (bC_ BK171.out 0).trans rfl; have hcz54_1 : w53.cell? ⟨gb171, 1, none⟩ = some (.int .i64 x172b_5) := (bC_ BK171.out 1).trans rfl; have hcz54_2 : w53.cell? ⟨gb171, 2, none⟩ = some (.int .i64 x172c_15) := (bC_ BK171.out 2).trans rfl; have hcz54_3 : w53.cell? ⟨gb171, 3, none⟩ = some (.int .i64 x172d_23) := (bC_ BK171.out 3).trans rfl; have hcz54_4 : w53.cell? ⟨gb171, 4, none⟩ = some (.int .i64 x172e_28) := (bC_ BK171.out 4).trans rfl; have hcz54_5 : w53.cell? ⟨gb171, 5, none⟩ = some (.string (⟨#[]⟩ : ByteArray)) := (bC_ BK171.out 5).trans rfl; have hfz54_0 := bZ_ BK171.out 0; have hfz54_1 := bZ_ BK171.out 1; have hfz54_2 := bZ_ BK171.out 2; have hfz54_3 := bZ_ BK171.out 3; have hfz54_4 := bZ_ BK171.out 4; have hfz54_5 := bZ_ BK171.out 5) | (go_at_call 10; (with_reducible refine (r3_Word.calls kj28 (wrap64 (a0 / 67108864)) x172b_5 x172c_15 x172d_23 x172e_28 (⟨#[]⟩ : ByteArray) t180 _ A42.out).mono ?_); rintro e w55 ⟨rfl, hb⟩; have n0_ := As_.mk (kB_ (g := gb170) (o := .cells #[.int .i64 0, .int .i64 0, .int .i64 0, .int .i64 0, .int .i64 0, .string (⟨#[]⟩ : ByteArray)] 35 (0, 0)) (by (with_reducible repeat (first | refine kN_ ?_ _ | refine kD_ ?_ | refine kA_ ?_ _)); exact BK170.out) hb); have n1_ := As_.mk (kB_ (g := gb171) (o := .cells #[.int .i64 (wrap64 (a0 / 67108864)), .int .i64 x172b_5, .int .i64 x172c_15, .int .i64 x172d_23, .int .i64 x172e_28, .string (⟨#[]⟩ : ByteArray)] 35 (0, 0)) (by (with_reducible repeat (first | refine kN_ ?_ _ | refine kD_ ?_ | refine kA_ ?_ _)); exact BK171.out) hb); have n2_ := As_.mk (bT_ (by repeat (first | (with_reducible first | exact HB.out | apply bA_ | apply bN_ | apply b1_ | refine bS_ ?_ GE170.out | refine bS_ ?_ GE171.out) | exact HB.out)) hb); clear BK170; clear BK171; clear HB; have BK170 := n0_; have BK171 := n1_; have HB := n2_; clear n0_ n1_ n2_; have hcz56_0 : w55.cell? ⟨gb170, 0, none⟩ = some (.int .i64 0) := (bC_ BK170.out 0).trans rfl; have hcz56_1 : w55.cell? ⟨gb170, 1, none⟩ = some (.int .i64 0) := (bC_ BK170.out 1).trans rfl; have hcz56_2 : w55.cell? ⟨gb170, 2, none⟩ = some (.int .i64 0) := (bC_ BK170.out 2).trans rfl; have hcz56_3 : w55.cell? ⟨gb170, 3, none⟩ = some (.int .i64 0) := (bC_ BK170.out 3).trans rfl; have hcz56_4 : w55.cell? ⟨gb170, 4, none⟩ = some (.int .i64 0) := (bC_ BK170.out 4).trans rfl; have hcz56_5 : w55.cell? ⟨gb170, 5, none⟩ = some (.string (⟨#[]⟩ : ByteArray)) := (bC_ BK170.out 5).trans rfl; have hfz56_0 := bZ_ BK170.out 0; have hfz56_1 := bZ_ BK170.out 1; have hfz56_2 := bZ_ BK170.out 2; have hfz56_3 := bZ_ BK170.out 3; have hfz56_4 := bZ_ BK170.out 4; have hfz56_5 := bZ_ BK170.out 5))
             refine bodyPost_ret (results_ct rfl _ _ gb170 35 #[.int .i64 0, .int .i64 0, .int .i64 0, .int .i64 0, .int .i64 0, .string (⟨#[]⟩ : ByteArray)] (0, 0) _ rfl (by (with_reducible repeat (first | refine kN_ ?_ _ | refine kD_ ?_ | refine kA_ ?_ _)); refine blk_put (cs := #[.int .i64 0, .int .i64 0, .int .i64 0, .int .i64 0, .int .i64 0, .string (⟨#[]⟩ : ByteArray)]) ?_ 5 _ rfl; (with_reducible repeat (first | refine kN_ ?_ _ | refine kD_ ?_ | refine kA_ ?_ _)); refine blk_put (cs := #[.int .i64 0, .int .i64 0, .int .i64 0, .int .i64 0, .int .i64 0, .string (⟨#[]⟩ : ByteArray)]) ?_ 4 _ rfl; (with_reducible repeat (first | refine kN_ ?_ _ | refine kD_ ?_ | refine kA_ ?_ _)); refine blk_put (cs := #[.int .i64 0, .int .i64 0, .int .i64 0, .int .i64 0, .int .i64 0, .string (⟨#[]⟩ : ByteArray)]) ?_ 3 _ rfl; (with_reducible repeat (first | refine kN_ ?_ _ | refine kD_ ?_ | refine kA_ ?_ _)); refine blk_put (cs := #[.int .i64 0, .int .i64 0, .int .i64 0, .int .i64 0, .int .i64 0, .string (⟨#[]⟩ : ByteArray)]) ?_ 2 _ rfl; (with_reducible repeat (first | refine kN_ ?_ _ | refine kD_ ?_ | refine kA_ ?_ _)); refine blk_put (cs := #[.int .i64 0, .int .i64 0, .int .i64 0, .int .i64 0, .int .i64 0, .string (⟨#[]⟩ : ByteArray)]) ?_ 1 _ rfl; (with_reducible repeat (first | refine kN_ ?_ _ | refine kD_ ?_ | refine kA_ ?_ _)); refine blk_put (cs := #[.int .i64 0, .int .i64 0, .int .i64 0, .int .i64 0, .int .i64 0, .string (⟨#[]⟩ : ByteArray)]) ?_ 0 _ rfl; (with_reducible repeat (first | refine kN_ ?_ _ | refine kD_ ?_ | refine kA_ ?_ _)); exact BK170.out) Try.underlying35 rfl (by kernel_rfl)) rfl ?_
             exact ⟨by first | rfl | (simp [eN_, eS_] <;> rfl) | (simp [*, eN_, eS_] <;> rfl), by repeat (first | (with_reducible first | exact HB.out | apply bA_ | apply bN_ | apply b1_ | refine bS_ ?_ GE170.out | refine bS_ ?_ GE171.out) | exact HB.out)⟩
            replace c41 := Bool.eq_false_iff.mpr c41
            subst c41
            have H1 : (some (0, 0, 0, 0, 0, (⟨#[]⟩ : ByteArray), false)) = some (r1, r2, r3, r4, r5, r6, r7) := by rw [if_neg (show ¬ (false = true) by decide)] at H; exact H
            clear H
            have H := H1
            clear H1
            simp only [Option.some.injEq, Prod.mk.injEq] at H
            obtain ⟨rfl, rfl, rfl, rfl, rfl, rfl, rfl⟩ := H
            have hnb57 := NB171_170.out
            have hnc57 := NB170_171.out
            have hcz58_0 : wc.cell? ⟨gb171, 0, none⟩ = some (.int .i64 (wrap64 (a0 / 67108864))) := (bC_ BK171.out 0).trans rfl
            have hcz58_1 : wc.cell? ⟨gb171, 1, none⟩ = some (.int .i64 x172b_5) := (bC_ BK171.out 1).trans rfl
            have hcz58_2 : wc.cell? ⟨gb171, 2, none⟩ = some (.int .i64 x172c_15) := (bC_ BK171.out 2).trans rfl
            have hcz58_3 : wc.cell? ⟨gb171, 3, none⟩ = some (.int .i64 x172d_23) := (bC_ BK171.out 3).trans rfl
            have hcz58_4 : wc.cell? ⟨gb171, 4, none⟩ = some (.int .i64 x172e_28) := (bC_ BK171.out 4).trans rfl
            have hcz58_5 : wc.cell? ⟨gb171, 5, none⟩ = some (.string (⟨#[]⟩ : ByteArray)) := (bC_ BK171.out 5).trans rfl
            have hfz58_0 := bZ_ BK171.out 0
            have hfz58_1 := bZ_ BK171.out 1
            have hfz58_2 := bZ_ BK171.out 2
            have hfz58_3 := bZ_ BK171.out 3
            have hfz58_4 := bZ_ BK171.out 4
            have hfz58_5 := bZ_ BK171.out 5
            go_wp2_with (first | ((with_reducible refine gC_ (f := 9) rfl ?_); refine goesL_ (some 71) rfl rfl Try.func9 (by kernel_rfl) rfl #[.agg #[.int .i64 (wrap64 (a0 / 67108864)), .int .i64 x172b_5, .int .i64 x172c_15, .int .i64 x172d_23, .int .i64 x172e_28, .string (⟨#[]⟩ : ByteArray)]] rfl (by (try simp only [List.map_toArray, List.map_cons, List.map_nil]); first | done | rfl) ?_; (with_reducible refine (r3_Ins.calls kj28 (wrap64 (a0 / 67108864)) x172b_5 x172c_15 x172d_23 x172e_28 (⟨#[]⟩ : ByteArray) false _ A40.out).mono ?_); rintro e w59 ⟨rfl, hb⟩; refine ⟨_, rfl, ?_⟩; have n0_ := As_.mk (kB_ (g := gb170) (o := .cells #[.int .i64 0, .int .i64 0, .int .i64 0, .int .i64 0, .int .i64 0, .string (⟨#[]⟩ : ByteArray)] 35 (0, 0)) (by (with_reducible repeat (first | refine kN_ ?_ _ | refine kD_ ?_ | refine kA_ ?_ _)); exact BK170.out) hb); have n1_ := As_.mk (kB_ (g := gb171) (o := .cells #[.int .i64 (wrap64 (a0 / 67108864)), .int .i64 x172b_5, .int .i64 x172c_15, .int .i64 x172d_23, .int .i64 x172e_28, .string (⟨#[]⟩ : ByteArray)] 35 (0, 0)) (by (with_reducible repeat (first | refine kN_ ?_ _ | refine kD_ ?_ | refine kA_ ?_ _)); exact BK171.out) hb); have n2_ := As_.mk (bT_ (by repeat (first | (with_reducible first | exact HB.out | apply bA_ | apply bN_ | apply b1_ | refine bS_ ?_ GE170.out | refine bS_ ?_ GE171.out) | exact HB.out)) hb); clear BK170; clear BK171; clear HB; have BK170 := n0_; have BK171 := n1_; have HB := n2_; clear n0_ n1_ n2_; have hcz60_0 : w59.cell? ⟨gb170, 0, none⟩ = some (.int .i64 0) := (bC_ BK170.out 0).trans rfl; have hcz60_1 : w59.cell? ⟨gb170, 1, none⟩ = some (.int .i64 0) := (bC_ BK170.out 1).trans rfl; have hcz60_2 : w59.cell? ⟨gb170, 2, none⟩ = some (.int .i64 0) := (bC_ BK170.out 2).trans rfl; have hcz60_3 : w59.cell? ⟨gb170, 3, none⟩ = some (.int .i64 0) := (bC_ BK170.out 3).trans rfl; have hcz60_4 : w59.cell? ⟨gb170, 4, none⟩ = some (.int .i64 0) := (bC_ BK170.out 4).trans rfl; have hcz60_5 : w59.cell? ⟨gb170, 5, none⟩ = some (.string (⟨#[]⟩ : ByteArray)) := (bC_ BK170.out 5).trans rfl; have hfz60_0 := bZ_ BK170.out 0; have hfz60_1 := bZ_ BK170.out 1; have hfz60_2 := bZ_ BK170.out 2; have hfz60_3 := bZ_ BK170.out 3; have hfz60_4 := bZ_ BK170.out 4; have hfz60_5 := bZ_ BK170.out 5))
            refine bodyPost_ret (results_ct rfl _ _ gb170 35 #[.int .i64 0, .int .i64 0, .int .i64 0, .int .i64 0, .int .i64 0, .string (⟨#[]⟩ : ByteArray)] (0, 0) _ rfl (by (with_reducible repeat (first | refine kN_ ?_ _ | refine kD_ ?_ | refine kA_ ?_ _)); refine blk_put (cs := #[.int .i64 0, .int .i64 0, .int .i64 0, .int .i64 0, .int .i64 0, .string (⟨#[]⟩ : ByteArray)]) ?_ 5 _ rfl; (with_reducible repeat (first | refine kN_ ?_ _ | refine kD_ ?_ | refine kA_ ?_ _)); refine blk_put (cs := #[.int .i64 0, .int .i64 0, .int .i64 0, .int .i64 0, .int .i64 0, .string (⟨#[]⟩ : ByteArray)]) ?_ 4 _ rfl; (with_reducible repeat (first | refine kN_ ?_ _ | refine kD_ ?_ | refine kA_ ?_ _)); refine blk_put (cs := #[.int .i64 0, .int .i64 0, .int .i64 0, .int .i64 0, .int .i64 0, .string (⟨#[]⟩ : ByteArray)]) ?_ 3 _ rfl; (with_reducible repeat (first | refine kN_ ?_ _ | refine kD_ ?_ | refine kA_ ?_ _)); refine blk_put (cs := #[.int .i64 0, .int .i64 0, .int .i64 0, .int .i64 0, .int .i64 0, .string (⟨#[]⟩ : ByteArray)]) ?_ 2 _ rfl; (with_reducible repeat (first | refine kN_ ?_ _ | refine kD_ ?_ | refine kA_ ?_ _)); refine blk_put (cs := #[.int .i64 0, .int .i64 0, .int .i64 0, .int .i64 0, .int .i64 0, .string (⟨#[]⟩ : ByteArray)]) ?_ 1 _ rfl; (with_reducible repeat (first | refine kN_ ?_ _ | refine kD_ ?_ | refine kA_ ?_ _)); refine blk_put (cs := #[.int .i64 0, .int .i64 0, .int .i64 0, .int .i64 0, .int .i64 0, .string (⟨#[]⟩ : ByteArray)]) ?_ 0 _ rfl; (with_reducible repeat (first | refine kN_ ?_ _ | refine kD_ ?_ | refine kA_ ?_ _)); exact BK170.out) Try.underlying35 rfl (by kernel_rfl)) rfl ?_
            exact ⟨by first | rfl | (simp [eN_, eS_] <;> rfl) | (simp [*, eN_, eS_] <;> rfl), by repeat (first | (with_reducible first | exact HB.out | apply bA_ | apply bN_ | apply b1_ | refine bS_ ?_ GE170.out | refine bS_ ?_ GE171.out) | exact HB.out)⟩
 replace c3 := Bool.eq_false_iff.mpr c3
 subst c3
 have H1 : (some (0, 0, 0, 0, 0, (⟨#[]⟩ : ByteArray), false)) = some (r1, r2, r3, r4, r5, r6, r7) := by rw [if_neg (show ¬ (false = true) by decide)] at H; exact H
 clear H
 have H := H1
 clear H1
 simp only [Option.some.injEq, Prod.mk.injEq] at H
 obtain ⟨rfl, rfl, rfl, rfl, rfl, rfl, rfl⟩ := H
 go_enter Try.func13, Try.ntmps13
 go_wp2_with (first | ((with_reducible refine gate_dst (N := 2) rfl ?_); refine box_event ?hg (N := 2) ?hd (cs := #[.int .i64 0, .int .i64 0, .int .i64 0, .int .i64 0, .int .i64 0, .string (⟨#[]⟩ : ByteArray)]) (t := 35) ?hr ?_; (case hd => rfl); (case hg => rfl); (case hr => first | (go_simp; done) | (go_simp; rfl)); intro gb170 hg w61 hbox hb; have n0_ := As_.mk (bT_ (by repeat (first | (with_reducible first | exact HB.out | apply bA_ | apply bN_ | apply b1_) | exact HB.out)) hb); have n1_ := As_.mk (hbox); have n2_ := As_.mk ((by rw [hg]; exact (bY_ (by repeat (first | (with_reducible first | exact HB.out | apply bA_ | apply bN_ | apply b1_) | exact HB.out))) : w.heap.size ≤ gb170)); have n3_ := As_.mk ((by rw [hg]; exact (bY_ (by repeat (first | (with_reducible first | exact HB.out | apply bA_ | apply bN_ | apply b1_) | exact HB.out))) : w.heap.size ≤ gb170)); clear HB; have HB := n0_; have BK170 := n1_; have GW170 := n2_; have GE170 := n3_; clear n0_ n1_ n2_ n3_; clear hb hbox hg) | ((with_reducible refine gate_dst (N := 4) rfl ?_); refine box_event ?hg (N := 4) ?hd (cs := #[.int .i64 0, .int .i64 0, .int .i64 0, .int .i64 0, .int .i64 0, .string (⟨#[]⟩ : ByteArray)]) (t := 35) ?hr ?_; (case hd => rfl); (case hg => rfl); (case hr => first | (go_simp; done) | (go_simp; rfl)); intro gb171 hg w62 hbox hb; have n0_ := As_.mk (kB_ (g := gb170) (o := .cells #[.int .i64 0, .int .i64 0, .int .i64 0, .int .i64 0, .int .i64 0, .string (⟨#[]⟩ : ByteArray)] 35 (0, 0)) (by (with_reducible repeat (first | refine kN_ ?_ _ | refine kD_ ?_ | refine kA_ ?_ _)); exact BK170.out) hb); have n1_ := As_.mk (bT_ (by repeat (first | (with_reducible first | exact HB.out | apply bA_ | apply bN_ | apply b1_ | refine bS_ ?_ GE170.out) | exact HB.out)) hb); have n2_ := As_.mk (hbox); have n3_ := As_.mk ((by rw [hg]; exact (bY_ (by repeat (first | (with_reducible first | exact HB.out | apply bA_ | apply bN_ | apply b1_ | refine bS_ ?_ GE170.out) | exact HB.out))) : w.heap.size ≤ gb171)); have n4_ := As_.mk ((by rw [hg]; exact (bY_ (by repeat (first | (with_reducible first | exact HB.out | apply bA_ | apply bN_ | apply b1_ | refine bS_ ?_ GE170.out) | exact HB.out))) : w.heap.size ≤ gb171)); have n5_ := As_.mk ((by rw [hg]; exact Nat.ne_of_lt (blk_lt (g := gb170) (o := .cells #[.int .i64 0, .int .i64 0, .int .i64 0, .int .i64 0, .int .i64 0, .string (⟨#[]⟩ : ByteArray)] 35 (0, 0)) (by (with_reducible repeat (first | refine kN_ ?_ _ | refine kD_ ?_ | refine kA_ ?_ _)); exact BK170.out)) : gb170 ≠ gb171)); have n6_ := As_.mk ((by rw [hg]; exact Nat.ne_of_gt (blk_lt (g := gb170) (o := .cells #[.int .i64 0, .int .i64 0, .int .i64 0, .int .i64 0, .int .i64 0, .string (⟨#[]⟩ : ByteArray)] 35 (0, 0)) (by (with_reducible repeat (first | refine kN_ ?_ _ | refine kD_ ?_ | refine kA_ ?_ _)); exact BK170.out)) : gb171 ≠ gb170)); clear BK170; clear HB; have BK170 := n0_; have HB := n1_; have BK171 := n2_; have GW171 := n3_; have GE171 := n4_; have NB170_171 := n5_; have NB171_170 := n6_; clear n0_ n1_ n2_ n3_ n4_ n5_ n6_; clear hb hbox hg; have hnb63 := NB171_170.out; have hnc63 := NB170_171.out; have hcz64_0 : w62.cell? ⟨gb171, 0, none⟩ = some (.int .i64 0) := (bC_ BK171.out 0).trans rfl; have hcz64_1 : w62.cell? ⟨gb171, 1, none⟩ = some (.int .i64 0) := (bC_ BK171.out 1).trans rfl; have hcz64_2 : w62.cell? ⟨gb171, 2, none⟩ = some (.int .i64 0) := (bC_ BK171.out 2).trans rfl; have hcz64_3 : w62.cell? ⟨gb171, 3, none⟩ = some (.int .i64 0) := (bC_ BK171.out 3).trans rfl; have hcz64_4 : w62.cell? ⟨gb171, 4, none⟩ = some (.int .i64 0) := (bC_ BK171.out 4).trans rfl; have hcz64_5 : w62.cell? ⟨gb171, 5, none⟩ = some (.string (⟨#[]⟩ : ByteArray)) := (bC_ BK171.out 5).trans rfl; have hfz64_0 := bZ_ BK171.out 0; have hfz64_1 := bZ_ BK171.out 1; have hfz64_2 := bZ_ BK171.out 2; have hfz64_3 := bZ_ BK171.out 3; have hfz64_4 := bZ_ BK171.out 4; have hfz64_5 := bZ_ BK171.out 5) | ((with_reducible refine gC_ (f := 30) rfl ?_); refine goesL_ (some 16) rfl rfl Try.func30 (by kernel_rfl) rfl #[.int .i64 (wrap64 (a0 / 67108864))] rfl (by (try simp only [List.map_toArray, List.map_cons, List.map_nil]); first | done | rfl) ?_; (with_reducible refine (r3_Valid.calls (wrap64 (a0 / 67108864)) false _ A2.out).mono ?_); rintro e w' ⟨rfl, ⟨nd, rfl⟩⟩; refine ⟨_, rfl, ?_⟩; have hcz65_0 : w62.cell? ⟨gb170, 0, none⟩ = some (.int .i64 0) := (bC_ BK170.out 0).trans rfl; have hcz65_1 : w62.cell? ⟨gb170, 1, none⟩ = some (.int .i64 0) := (bC_ BK170.out 1).trans rfl; have hcz65_2 : w62.cell? ⟨gb170, 2, none⟩ = some (.int .i64 0) := (bC_ BK170.out 2).trans rfl; have hcz65_3 : w62.cell? ⟨gb170, 3, none⟩ = some (.int .i64 0) := (bC_ BK170.out 3).trans rfl; have hcz65_4 : w62.cell? ⟨gb170, 4, none⟩ = some (.int .i64 0) := (bC_ BK170.out 4).trans rfl; have hcz65_5 : w62.cell? ⟨gb170, 5, none⟩ = some (.string (⟨#[]⟩ : ByteArray)) := (bC_ BK170.out 5).trans rfl; have hfz65_0 := bZ_ BK170.out 0; have hfz65_1 := bZ_ BK170.out 1; have hfz65_2 := bZ_ BK170.out 2; have hfz65_3 := bZ_ BK170.out 3; have hfz65_4 := bZ_ BK170.out 4; have hfz65_5 := bZ_ BK170.out 5))
 refine bodyPost_ret (results_ct rfl _ _ gb170 35 #[.int .i64 0, .int .i64 0, .int .i64 0, .int .i64 0, .int .i64 0, .string (⟨#[]⟩ : ByteArray)] (0, 0) _ rfl (by (with_reducible repeat (first | refine kN_ ?_ _ | refine kD_ ?_ | refine kA_ ?_ _)); refine blk_put (cs := #[.int .i64 0, .int .i64 0, .int .i64 0, .int .i64 0, .int .i64 0, .string (⟨#[]⟩ : ByteArray)]) ?_ 5 _ rfl; (with_reducible repeat (first | refine kN_ ?_ _ | refine kD_ ?_ | refine kA_ ?_ _)); refine blk_put (cs := #[.int .i64 0, .int .i64 0, .int .i64 0, .int .i64 0, .int .i64 0, .string (⟨#[]⟩ : ByteArray)]) ?_ 4 _ rfl; (with_reducible repeat (first | refine kN_ ?_ _ | refine kD_ ?_ | refine kA_ ?_ _)); refine blk_put (cs := #[.int .i64 0, .int .i64 0, .int .i64 0, .int .i64 0, .int .i64 0, .string (⟨#[]⟩ : ByteArray)]) ?_ 3 _ rfl; (with_reducible repeat (first | refine kN_ ?_ _ | refine kD_ ?_ | refine kA_ ?_ _)); refine blk_put (cs := #[.int .i64 0, .int .i64 0, .int .i64 0, .int .i64 0, .int .i64 0, .string (⟨#[]⟩ : ByteArray)]) ?_ 2 _ rfl; (with_reducible repeat (first | refine kN_ ?_ _ | refine kD_ ?_ | refine kA_ ?_ _)); refine blk_put (cs := #[.int .i64 0, .int .i64 0, .int .i64 0, .int .i64 0, .int .i64 0, .string (⟨#[]⟩ : ByteArray)]) ?_ 1 _ rfl; (with_reducible repeat (first | refine kN_ ?_ _ | refine kD_ ?_ | refine kA_ ?_ _)); refine blk_put (cs := #[.int .i64 0, .int .i64 0, .int .i64 0, .int .i64 0, .int .i64 0, .string (⟨#[]⟩ : ByteArray)]) ?_ 0 _ rfl; (with_reducible repeat (first | refine kN_ ?_ _ | refine kD_ ?_ | refine kA_ ?_ _)); refine blk_far ?_ NB170_171.out _; (with_reducible repeat (first | refine kN_ ?_ _ | refine kD_ ?_ | refine kA_ ?_ _)); refine blk_far ?_ NB170_171.out _; (with_reducible repeat (first | refine kN_ ?_ _ | refine kD_ ?_ | refine kA_ ?_ _)); refine blk_far ?_ NB170_171.out _; (with_reducible repeat (first | refine kN_ ?_ _ | refine kD_ ?_ | refine kA_ ?_ _)); refine blk_far ?_ NB170_171.out _; (with_reducible repeat (first | refine kN_ ?_ _ | refine kD_ ?_ | refine kA_ ?_ _)); refine blk_far ?_ NB170_171.out _; (with_reducible repeat (first | refine kN_ ?_ _ | refine kD_ ?_ | refine kA_ ?_ _)); refine blk_far ?_ NB170_171.out _; (with_reducible repeat (first | refine kN_ ?_ _ | refine kD_ ?_ | refine kA_ ?_ _)); exact BK170.out) Try.underlying35 rfl (by kernel_rfl)) rfl ?_
 exact ⟨by first | rfl | (simp [eN_, eS_] <;> rfl) | (simp [*, eN_, eS_] <;> rfl), by repeat (first | (with_reducible first | exact HB.out | apply bA_ | apply bN_ | apply b1_ | refine bS_ ?_ GE170.out | refine bS_ ?_ GE171.out) | exact HB.out)⟩
end Go.Proofs.Ytfnchdlgkkdegaa.PAll
