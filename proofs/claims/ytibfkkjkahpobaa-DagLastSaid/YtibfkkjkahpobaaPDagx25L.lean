-- the texts that this claim needs, out of this session's and its print's (wip/shrink.py)
import Derived.Test.YtibfkkjkahpobaaPDagx0L
import Derived.Test.YtibfkkjkahpobaaPDagx6L
import Derived.Test.YtibfkkjkahpobaaPDagx7L
import Derived.Test.YtibfkkjkahpobaaPDagx23L
import Derived.Test.YtibfkkjkahpobaaPDagx24L
namespace Go.Proofs.Ytibfkkjkahpobaa.PDag
open Go.RowKit Go.Proofs.YtibfkkjkahpobaaW.PrintWords Go.Proofs.YtibfkkjkahpobaaW.PrintLast Go.Proofs.YtibfkkjkahpobaaW.PrintMore
attribute [local go_sem] max2_int min2_int max_two min_two max_three min_three max_four min_four   -- for this text's walks alone
set_option linter.unusedVariables false
set_option linter.unusedSimpArgs false
def dag_Last.j0 : Nat → List (S24) → List Int → Bool → Int → Int → Int → Int → Int → ByteArray → Option (Int × Int)
  | 0, _, _, _, _, _, _, _, _, _ => none
  | k + 1, x0, x2, x39, x559a, x559b, x559c, x559d, x559e, x559f => if x39 = true then (some (0, 1)) else ((dag_Least.f k x0 x559a x559b x559c x559d x559e x559f x2).bind fun t563 => (some (t563, 0)))
def dag_Last.f (k : Nat) (l0 : List (S24)) (a1_0 : Int) (a1_1 : Int) (a1_2 : Int) (a1_3 : Int) (a1_4 : Int) (a1_5 : ByteArray) (l2 : List Int) : Option (Int × Int) := (dag_May.f k l0).bind fun t559 => (if t559 = true then (if (l2.length : Int) = (l0.length : Int) then ((sC_61.f k l2).bind fun t560 => (if t560 = true then (dag_Last.j0 k l0 l2 true a1_0 a1_1 a1_2 a1_3 a1_4 a1_5) else ((isa_IsIns.f k a1_0 a1_1 a1_2 a1_3 a1_4 a1_5).bind fun t561 => (if t561 = true then ((isa_Ends.f a1_0).bind fun t562 => (if t562 = true then (dag_Last.j0 k l0 l2 false a1_0 a1_1 a1_2 a1_3 a1_4 a1_5) else (dag_Last.j0 k l0 l2 (a1_0 != 0) a1_0 a1_1 a1_2 a1_3 a1_4 a1_5))) else (dag_Last.j0 k l0 l2 true a1_0 a1_1 a1_2 a1_3 a1_4 a1_5))))) else (dag_Last.j0 k l0 l2 true a1_0 a1_1 a1_2 a1_3 a1_4 a1_5)) else (dag_Last.j0 k l0 l2 true a1_0 a1_1 a1_2 a1_3 a1_4 a1_5))
set_option maxHeartbeats 8000000 in
set_option maxRecDepth 100000 in
theorem dag_Last.calls (k : Nat) (A0 : Option Addr) (c0 : Nat) (l0 : List (S24)) (a1_0 : Int) (a1_1 : Int) (a1_2 : Int) (a1_3 : Int) (a1_4 : Int) (a1_5 : ByteArray) (A2 : Option Addr) (c2 : Nat) (l2 : List Int) (r1 : Int) (r2 : Int) (w : World) (hr0 : Kd.C k24 w A0 l0.length l0) (hc0 : l0.length ≤ c0) (hr2 : Kd.C (Kd.int .i64) w A2 l2.length l2) (hc2 : l2.length ≤ c2) (h : dag_Last.f k l0 a1_0 a1_1 a1_2 a1_3 a1_4 a1_5 l2 = some (r1, r2)) :
    Calls Try.prog 38 #[.slice A0 l0.length c0, .agg #[.int .i64 a1_0, .int .i64 a1_1, .int .i64 a1_2, .int .i64 a1_3, .int .i64 a1_4, .string a1_5], .slice A2 l2.length c2] w fun e w' => e = .returned (.tuple #[.int .i64 r1, .int .i64 r2]) ∧ Below w.heap.size w w' := by
 have hu24 := Try.underlying24
 have HR0 := As_.mk hr0
 have HC0 := As_.mk hc0
 clear hr0 hc0
 have HR2 := As_.mk hr2
 have HC2 := As_.mk hc2
 clear hr2 hc2
 have HB := As_.mk (Below.refl w.heap.size w)
 have H : ((dag_May.f k l0).bind fun t559 => (if t559 = true then (if (l2.length : Int) = (l0.length : Int) then ((sC_61.f k l2).bind fun t560 => (if t560 = true then (dag_Last.j0 k l0 l2 true a1_0 a1_1 a1_2 a1_3 a1_4 a1_5) else ((isa_IsIns.f k a1_0 a1_1 a1_2 a1_3 a1_4 a1_5).bind fun t561 => (if t561 = true then ((isa_Ends.f a1_0).bind fun t562 => (if t562 = true then (dag_Last.j0 k l0 l2 false a1_0 a1_1 a1_2 a1_3 a1_4 a1_5) else (dag_Last.j0 k l0 l2 (a1_0 != 0) a1_0 a1_1 a1_2 a1_3 a1_4 a1_5))) else (dag_Last.j0 k l0 l2 true a1_0 a1_1 a1_2 a1_3 a1_4 a1_5))))) else (dag_Last.j0 k l0 l2 true a1_0 a1_1 a1_2 a1_3 a1_4 a1_5)) else (dag_Last.j0 k l0 l2 true a1_0 a1_1 a1_2 a1_3 a1_4 a1_5))) = some (r1, r2) := h
 clear h
 have HC4 := As_.mk H
 clear H
 go_enter Try.func38, Try.ntmps38
 go_upto_region 2 with (first | ((with_reducible refine gate_dst (N := 4) rfl ?_); refine box_event ?hg (N := 4) ?hd (cs := #[.int .i64 a1_0, .int .i64 a1_1, .int .i64 a1_2, .int .i64 a1_3, .int .i64 a1_4, .string a1_5]) (t := 24) ?hr ?_; (case hd => rfl); (case hg => rfl); (case hr => first | (go_simp; done) | (go_simp; rfl)); intro gb558 hg w5 hbox hb; have n0_ := As_.mk (bT_ (by repeat (first | (with_reducible first | exact HB.out | apply bA_ | apply bN_ | apply b1_) | exact HB.out)) hb); have n1_ := As_.mk (hbox); have n2_ := As_.mk ((by rw [hg]; exact (bY_ (by repeat (first | (with_reducible first | exact HB.out | apply bA_ | apply bN_ | apply b1_) | exact HB.out))) : w.heap.size ≤ gb558)); have n3_ := As_.mk ((by rw [hg]; exact (bY_ (by repeat (first | (with_reducible first | exact HB.out | apply bA_ | apply bN_ | apply b1_) | exact HB.out))) : w.heap.size ≤ gb558)); clear HB; have HB := n0_; have BK558 := n1_; have GW558 := n2_; have GE558 := n3_; clear n0_ n1_ n2_ n3_; clear hb hbox hg))
 (try simp only [Act.put, List.setIfInBounds_toArray, List.set_cons_zero, List.set_cons_succ])
 go_cut [39] (fun v39 wc => ∃ (kq : Nat) (x39_3 : Bool), v39 = .bool x39_3 ∧ As_ (dag_Last.j0 kq l0 l2 x39_3 a1_0 a1_1 a1_2 a1_3 a1_4 a1_5 = some (r1, r2)) ∧ As_ (kq ≤ k) ∧ As_ (wc.heap[gb558]? = some (.cells #[.int .i64 a1_0, .int .i64 a1_1, .int .i64 a1_2, .int .i64 a1_3, .int .i64 a1_4, .string a1_5] 24 (0, 0))) ∧ As_ (Below w.heap.size w wc))
 case first =>
  have H := HC4.out
  clear HC4
  replace H := Option.bind_eq_some_iff.mp H
  obtain ⟨t559, A60, H⟩ := H
  replace H : (if t559 = true then (if (l2.length : Int) = (l0.length : Int) then ((sC_61.f k l2).bind fun t560 => (if t560 = true then (dag_Last.j0 k l0 l2 true a1_0 a1_1 a1_2 a1_3 a1_4 a1_5) else ((isa_IsIns.f k a1_0 a1_1 a1_2 a1_3 a1_4 a1_5).bind fun t561 => (if t561 = true then ((isa_Ends.f a1_0).bind fun t562 => (if t562 = true then (dag_Last.j0 k l0 l2 false a1_0 a1_1 a1_2 a1_3 a1_4 a1_5) else (dag_Last.j0 k l0 l2 (a1_0 != 0) a1_0 a1_1 a1_2 a1_3 a1_4 a1_5))) else (dag_Last.j0 k l0 l2 true a1_0 a1_1 a1_2 a1_3 a1_4 a1_5))))) else (dag_Last.j0 k l0 l2 true a1_0 a1_1 a1_2 a1_3 a1_4 a1_5)) else (dag_Last.j0 k l0 l2 true a1_0 a1_1 a1_2 a1_3 a1_4 a1_5)) = some (r1, r2) := H
  have A6 := As_.mk A60
  clear A60
  by_cases c7 : t559 = true
  ·subst c7
   have H1 : (if (l2.length : Int) = (l0.length : Int) then ((sC_61.f k l2).bind fun t560 => (if t560 = true then (dag_Last.j0 k l0 l2 true a1_0 a1_1 a1_2 a1_3 a1_4 a1_5) else ((isa_IsIns.f k a1_0 a1_1 a1_2 a1_3 a1_4 a1_5).bind fun t561 => (if t561 = true then ((isa_Ends.f a1_0).bind fun t562 => (if t562 = true then (dag_Last.j0 k l0 l2 false a1_0 a1_1 a1_2 a1_3 a1_4 a1_5) else (dag_Last.j0 k l0 l2 (a1_0 != 0) a1_0 a1_1 a1_2 a1_3 a1_4 a1_5))) else (dag_Last.j0 k l0 l2 true a1_0 a1_1 a1_2 a1_3 a1_4 a1_5))))) else (dag_Last.j0 k l0 l2 true a1_0 a1_1 a1_2 a1_3 a1_4 a1_5)) = some (r1, r2) := by rw [if_pos rfl] at H; exact H
   clear H
   have H := H1
   clear H1
   by_cases c8 : (l2.length : Int) = (l0.length : Int)
   ·rw [if_pos c8] at H
    have c8b0 : ((l2.length : Int) == (l0.length : Int)) = true := beq_iff_eq.mpr c8
    have c8b1 : ((l2.length : Int) != (l0.length : Int)) = false := bne_eq_false_iff_eq.mpr c8
    have c8b2 : (l2.length == l0.length) = true := by first | simpa using c8 | (simp at c8 ⊢; omega)
    clear c8
    (first | rw [c8b0] | (simp only [i64_w, i32_w]; rw [c8b0]) | skip)
    replace H := Option.bind_eq_some_iff.mp H
    obtain ⟨t560, A90, H⟩ := H
    replace H : (if t560 = true then (dag_Last.j0 k l0 l2 true a1_0 a1_1 a1_2 a1_3 a1_4 a1_5) else ((isa_IsIns.f k a1_0 a1_1 a1_2 a1_3 a1_4 a1_5).bind fun t561 => (if t561 = true then ((isa_Ends.f a1_0).bind fun t562 => (if t562 = true then (dag_Last.j0 k l0 l2 false a1_0 a1_1 a1_2 a1_3 a1_4 a1_5) else (dag_Last.j0 k l0 l2 (a1_0 != 0) a1_0 a1_1 a1_2 a1_3 a1_4 a1_5))) else (dag_Last.j0 k l0 l2 true a1_0 a1_1 a1_2 a1_3 a1_4 a1_5)))) = some (r1, r2) := H
    have A9 := As_.mk A90
    clear A90
    by_cases c10 : t560 = true
    ·subst c10
     have H1 : (dag_Last.j0 k l0 l2 true a1_0 a1_1 a1_2 a1_3 a1_4 a1_5) = some (r1, r2) := by rw [if_pos rfl] at H; exact H
     clear H
     have H := H1
     clear H1
     have H' := As_.mk H
     clear H
     go_wp2_with (first | ((with_reducible refine gC_ (f := 55) rfl ?_); refine goesL_ (some 10) rfl rfl Try.func55 (by kernel_rfl) rfl #[.slice A0 l0.length c0] rfl (by (try simp only [List.map_toArray, List.map_cons, List.map_nil]); first | done | rfl) ?_; (with_reducible refine (dag_May.calls k _ _ l0 true _ ?side1 ?side2 A6.out).mono ?_); (case side1 => repeat (first | exact (Kd.C_below HR0.out HB.out) | (with_reducible refine Kd.C_alloc ?_ _) | (with_reducible refine Kd.C_drewN ?_ _) | (with_reducible refine Kd.C_drew ?_))); (case side2 => exact HC0.out); rintro e w11 ⟨rfl, hb⟩; refine ⟨_, rfl, ?_⟩; have n0_ := As_.mk (kB_ (g := gb558) (o := .cells #[.int .i64 a1_0, .int .i64 a1_1, .int .i64 a1_2, .int .i64 a1_3, .int .i64 a1_4, .string a1_5] 24 (0, 0)) (by (with_reducible repeat (first | refine kN_ ?_ _ | refine kD_ ?_ | refine kA_ ?_ _)); exact BK558.out) hb); have n1_ := As_.mk (bT_ (by repeat (first | (with_reducible first | exact HB.out | apply bA_ | apply bN_ | apply b1_ | refine bS_ ?_ GE558.out) | exact HB.out)) hb); clear BK558; clear HB; have BK558 := n0_; have HB := n1_; clear n0_ n1_) | (go_at_call 62; (with_reducible refine (sC_61.calls k _ _ l2  true _ ?side1 ?side2 A9.out).mono ?_); (case side1 => repeat (first | exact (Kd.C_below HR2.out HB.out) | (with_reducible refine Kd.C_alloc ?_ _) | (with_reducible refine Kd.C_drewN ?_ _) | (with_reducible refine Kd.C_drew ?_))); (case side2 => exact HC2.out); rintro e w12 ⟨rfl, hb⟩; have n0_ := As_.mk (kB_ (g := gb558) (o := .cells #[.int .i64 a1_0, .int .i64 a1_1, .int .i64 a1_2, .int .i64 a1_3, .int .i64 a1_4, .string a1_5] 24 (0, 0)) (by (with_reducible repeat (first | refine kN_ ?_ _ | refine kD_ ?_ | refine kA_ ?_ _)); exact BK558.out) hb); have n1_ := As_.mk (bT_ (by repeat (first | (with_reducible first | exact HB.out | apply bA_ | apply bN_ | apply b1_ | refine bS_ ?_ GE558.out) | exact HB.out)) hb); clear BK558; clear HB; have BK558 := n0_; have HB := n1_; clear n0_ n1_))
     go_meet
     case rel => exact ⟨_, (true), (by first | rfl | (simp; done) | (simp [*]; done) | (simp [wrap64]; done) | (congr 1; rw [Bool.eq_iff_iff]; simp; done)), H', ⟨by first | omega | exact Nat.le_refl _⟩, ⟨by (with_reducible repeat (first | refine kN_ ?_ _ | refine kD_ ?_ | refine kA_ ?_ _)); exact BK558.out⟩, ⟨by repeat (first | (with_reducible first | exact HB.out | apply bA_ | apply bN_ | apply b1_ | refine bS_ ?_ GE558.out) | exact HB.out)⟩⟩
    replace c10 := Bool.eq_false_iff.mpr c10
    subst c10
    have H1 : ((isa_IsIns.f k a1_0 a1_1 a1_2 a1_3 a1_4 a1_5).bind fun t561 => (if t561 = true then ((isa_Ends.f a1_0).bind fun t562 => (if t562 = true then (dag_Last.j0 k l0 l2 false a1_0 a1_1 a1_2 a1_3 a1_4 a1_5) else (dag_Last.j0 k l0 l2 (a1_0 != 0) a1_0 a1_1 a1_2 a1_3 a1_4 a1_5))) else (dag_Last.j0 k l0 l2 true a1_0 a1_1 a1_2 a1_3 a1_4 a1_5))) = some (r1, r2) := by rw [if_neg (show ¬ (false = true) by decide)] at H; exact H
    clear H
    have H := H1
    clear H1
    replace H := Option.bind_eq_some_iff.mp H
    obtain ⟨t561, A130, H⟩ := H
    replace H : (if t561 = true then ((isa_Ends.f a1_0).bind fun t562 => (if t562 = true then (dag_Last.j0 k l0 l2 false a1_0 a1_1 a1_2 a1_3 a1_4 a1_5) else (dag_Last.j0 k l0 l2 (a1_0 != 0) a1_0 a1_1 a1_2 a1_3 a1_4 a1_5))) else (dag_Last.j0 k l0 l2 true a1_0 a1_1 a1_2 a1_3 a1_4 a1_5)) = some (r1, r2) := H
    have A13 := As_.mk A130
    clear A130
    by_cases c14 : t561 = true
    ·subst c14
     have H1 : ((isa_Ends.f a1_0).bind fun t562 => (if t562 = true then (dag_Last.j0 k l0 l2 false a1_0 a1_1 a1_2 a1_3 a1_4 a1_5) else (dag_Last.j0 k l0 l2 (a1_0 != 0) a1_0 a1_1 a1_2 a1_3 a1_4 a1_5))) = some (r1, r2) := by rw [if_pos rfl] at H; exact H
     clear H
     have H := H1
     clear H1
     replace H := Option.bind_eq_some_iff.mp H
     obtain ⟨t562, A150, H⟩ := H
     replace H : (if t562 = true then (dag_Last.j0 k l0 l2 false a1_0 a1_1 a1_2 a1_3 a1_4 a1_5) else (dag_Last.j0 k l0 l2 (a1_0 != 0) a1_0 a1_1 a1_2 a1_3 a1_4 a1_5)) = some (r1, r2) := H
     have A15 := As_.mk A150
     clear A150
     by_cases c16 : t562 = true
     ·subst c16
      have H1 : (dag_Last.j0 k l0 l2 false a1_0 a1_1 a1_2 a1_3 a1_4 a1_5) = some (r1, r2) := by rw [if_pos rfl] at H; exact H
      clear H
      have H := H1
      clear H1
      have H' := As_.mk H
      clear H
      go_wp2_with (first | ((with_reducible refine gC_ (f := 55) rfl ?_); refine goesL_ (some 10) rfl rfl Try.func55 (by kernel_rfl) rfl #[.slice A0 l0.length c0] rfl (by (try simp only [List.map_toArray, List.map_cons, List.map_nil]); first | done | rfl) ?_; (with_reducible refine (dag_May.calls k _ _ l0 true _ ?side1 ?side2 A6.out).mono ?_); (case side1 => repeat (first | exact (Kd.C_below HR0.out HB.out) | (with_reducible refine Kd.C_alloc ?_ _) | (with_reducible refine Kd.C_drewN ?_ _) | (with_reducible refine Kd.C_drew ?_))); (case side2 => exact HC0.out); rintro e w17 ⟨rfl, hb⟩; refine ⟨_, rfl, ?_⟩; have n0_ := As_.mk (kB_ (g := gb558) (o := .cells #[.int .i64 a1_0, .int .i64 a1_1, .int .i64 a1_2, .int .i64 a1_3, .int .i64 a1_4, .string a1_5] 24 (0, 0)) (by (with_reducible repeat (first | refine kN_ ?_ _ | refine kD_ ?_ | refine kA_ ?_ _)); exact BK558.out) hb); have n1_ := As_.mk (bT_ (by repeat (first | (with_reducible first | exact HB.out | apply bA_ | apply bN_ | apply b1_ | refine bS_ ?_ GE558.out) | exact HB.out)) hb); clear BK558; clear HB; have BK558 := n0_; have HB := n1_; clear n0_ n1_) | (go_at_call 62; (with_reducible refine (sC_61.calls k _ _ l2  false _ ?side1 ?side2 A9.out).mono ?_); (case side1 => repeat (first | exact (Kd.C_below HR2.out HB.out) | (with_reducible refine Kd.C_alloc ?_ _) | (with_reducible refine Kd.C_drewN ?_ _) | (with_reducible refine Kd.C_drew ?_))); (case side2 => exact HC2.out); rintro e w18 ⟨rfl, hb⟩; have n0_ := As_.mk (kB_ (g := gb558) (o := .cells #[.int .i64 a1_0, .int .i64 a1_1, .int .i64 a1_2, .int .i64 a1_3, .int .i64 a1_4, .string a1_5] 24 (0, 0)) (by (with_reducible repeat (first | refine kN_ ?_ _ | refine kD_ ?_ | refine kA_ ?_ _)); exact BK558.out) hb); have n1_ := As_.mk (bT_ (by repeat (first | (with_reducible first | exact HB.out | apply bA_ | apply bN_ | apply b1_ | refine bS_ ?_ GE558.out) | exact HB.out)) hb); clear BK558; clear HB; have BK558 := n0_; have HB := n1_; clear n0_ n1_; have hcz19_0 : w18.cell? ⟨gb558, 0, none⟩ = some (.int .i64 a1_0) := (bC_ BK558.out 0).trans rfl; have hcz19_1 : w18.cell? ⟨gb558, 1, none⟩ = some (.int .i64 a1_1) := (bC_ BK558.out 1).trans rfl; have hcz19_2 : w18.cell? ⟨gb558, 2, none⟩ = some (.int .i64 a1_2) := (bC_ BK558.out 2).trans rfl; have hcz19_3 : w18.cell? ⟨gb558, 3, none⟩ = some (.int .i64 a1_3) := (bC_ BK558.out 3).trans rfl; have hcz19_4 : w18.cell? ⟨gb558, 4, none⟩ = some (.int .i64 a1_4) := (bC_ BK558.out 4).trans rfl; have hcz19_5 : w18.cell? ⟨gb558, 5, none⟩ = some (.string a1_5) := (bC_ BK558.out 5).trans rfl; have hfz19_0 := bZ_ BK558.out 0; have hfz19_1 := bZ_ BK558.out 1; have hfz19_2 := bZ_ BK558.out 2; have hfz19_3 := bZ_ BK558.out 3; have hfz19_4 := bZ_ BK558.out 4; have hfz19_5 := bZ_ BK558.out 5) | (go_at_call 63; (with_reducible refine (isa_IsIns.calls k a1_0 a1_1 a1_2 a1_3 a1_4 a1_5 true _ A13.out).mono ?_); rintro e w20 ⟨rfl, hb⟩; have n0_ := As_.mk (kB_ (g := gb558) (o := .cells #[.int .i64 a1_0, .int .i64 a1_1, .int .i64 a1_2, .int .i64 a1_3, .int .i64 a1_4, .string a1_5] 24 (0, 0)) (by (with_reducible repeat (first | refine kN_ ?_ _ | refine kD_ ?_ | refine kA_ ?_ _)); exact BK558.out) hb); have n1_ := As_.mk (bT_ (by repeat (first | (with_reducible first | exact HB.out | apply bA_ | apply bN_ | apply b1_ | refine bS_ ?_ GE558.out) | exact HB.out)) hb); clear BK558; clear HB; have BK558 := n0_; have HB := n1_; clear n0_ n1_; have hcz21_0 : w20.cell? ⟨gb558, 0, none⟩ = some (.int .i64 a1_0) := (bC_ BK558.out 0).trans rfl; have hcz21_1 : w20.cell? ⟨gb558, 1, none⟩ = some (.int .i64 a1_1) := (bC_ BK558.out 1).trans rfl; have hcz21_2 : w20.cell? ⟨gb558, 2, none⟩ = some (.int .i64 a1_2) := (bC_ BK558.out 2).trans rfl; have hcz21_3 : w20.cell? ⟨gb558, 3, none⟩ = some (.int .i64 a1_3) := (bC_ BK558.out 3).trans rfl; have hcz21_4 : w20.cell? ⟨gb558, 4, none⟩ = some (.int .i64 a1_4) := (bC_ BK558.out 4).trans rfl; have hcz21_5 : w20.cell? ⟨gb558, 5, none⟩ = some (.string a1_5) := (bC_ BK558.out 5).trans rfl; have hfz21_0 := bZ_ BK558.out 0; have hfz21_1 := bZ_ BK558.out 1; have hfz21_2 := bZ_ BK558.out 2; have hfz21_3 := bZ_ BK558.out 3; have hfz21_4 := bZ_ BK558.out 4; have hfz21_5 := bZ_ BK558.out 5) | (go_at_call 64; (with_reducible refine (isa_Ends.calls a1_0 true _ A15.out).mono ?_); rintro e w' ⟨rfl, ⟨nd, rfl⟩⟩))
      go_meet
      case rel => exact ⟨_, (false), (by first | rfl | (simp; done) | (simp [*]; done) | (simp [wrap64]; done) | (congr 1; rw [Bool.eq_iff_iff]; simp; done)), H', ⟨by first | omega | exact Nat.le_refl _⟩, ⟨by (with_reducible repeat (first | refine kN_ ?_ _ | refine kD_ ?_ | refine kA_ ?_ _)); exact BK558.out⟩, ⟨by repeat (first | (with_reducible first | exact HB.out | apply bA_ | apply bN_ | apply b1_ | refine bS_ ?_ GE558.out) | exact HB.out)⟩⟩
     replace c16 := Bool.eq_false_iff.mpr c16
     subst c16
     have H1 : (dag_Last.j0 k l0 l2 (a1_0 != 0) a1_0 a1_1 a1_2 a1_3 a1_4 a1_5) = some (r1, r2) := by rw [if_neg (show ¬ (false = true) by decide)] at H; exact H
     clear H
     have H := H1
     clear H1
     have H' := As_.mk H
     clear H
     go_wp2_with (first | ((with_reducible refine gC_ (f := 55) rfl ?_); refine goesL_ (some 10) rfl rfl Try.func55 (by kernel_rfl) rfl #[.slice A0 l0.length c0] rfl (by (try simp only [List.map_toArray, List.map_cons, List.map_nil]); first | done | rfl) ?_; (with_reducible refine (dag_May.calls k _ _ l0 true _ ?side1 ?side2 A6.out).mono ?_); (case side1 => repeat (first | exact (Kd.C_below HR0.out HB.out) | (with_reducible refine Kd.C_alloc ?_ _) | (with_reducible refine Kd.C_drewN ?_ _) | (with_reducible refine Kd.C_drew ?_))); (case side2 => exact HC0.out); rintro e w22 ⟨rfl, hb⟩; refine ⟨_, rfl, ?_⟩; have n0_ := As_.mk (kB_ (g := gb558) (o := .cells #[.int .i64 a1_0, .int .i64 a1_1, .int .i64 a1_2, .int .i64 a1_3, .int .i64 a1_4, .string a1_5] 24 (0, 0)) (by (with_reducible repeat (first | refine kN_ ?_ _ | refine kD_ ?_ | refine kA_ ?_ _)); exact BK558.out) hb); have n1_ := As_.mk (bT_ (by repeat (first | (with_reducible first | exact HB.out | apply bA_ | apply bN_ | apply b1_ | refine bS_ ?_ GE558.out) | exact HB.out)) hb); clear BK558; clear HB; have BK558 := n0_; have HB := n1_; clear n0_ n1_) | (go_at_call 62; (with_reducible refine (sC_61.calls k _ _ l2  false _ ?side1 ?side2 A9.out).mono ?_); (case side1 => repeat (first | exact (Kd.C_below HR2.out HB.out) | (with_reducible refine Kd.C_alloc ?_ _) | (with_reducible refine Kd.C_drewN ?_ _) | (with_reducible refine Kd.C_drew ?_))); (case side2 => exact HC2.out); rintro e w23 ⟨rfl, hb⟩; have n0_ := As_.mk (kB_ (g := gb558) (o := .cells #[.int .i64 a1_0, .int .i64 a1_1, .int .i64 a1_2, .int .i64 a1_3, .int .i64 a1_4, .string a1_5] 24 (0, 0)) (by (with_reducible repeat (first | refine kN_ ?_ _ | refine kD_ ?_ | refine kA_ ?_ _)); exact BK558.out) hb); have n1_ := As_.mk (bT_ (by repeat (first | (with_reducible first | exact HB.out | apply bA_ | apply bN_ | apply b1_ | refine bS_ ?_ GE558.out) | exact HB.out)) hb); clear BK558; clear HB; have BK558 := n0_; have HB := n1_; clear n0_ n1_; have hcz24_0 : w23.cell? ⟨gb558, 0, none⟩ = some (.int .i64 a1_0) := (bC_ BK558.out 0).trans rfl; have hcz24_1 : w23.cell? ⟨gb558, 1, none⟩ = some (.int .i64 a1_1) := (bC_ BK558.out 1).trans rfl; have hcz24_2 : w23.cell? ⟨gb558, 2, none⟩ = some (.int .i64 a1_2) := (bC_ BK558.out 2).trans rfl; have hcz24_3 : w23.cell? ⟨gb558, 3, none⟩ = some (.int .i64 a1_3) := (bC_ BK558.out 3).trans rfl; have hcz24_4 : w23.cell? ⟨gb558, 4, none⟩ = some (.int .i64 a1_4) := (bC_ BK558.out 4).trans rfl; have hcz24_5 : w23.cell? ⟨gb558, 5, none⟩ = some (.string a1_5) := (bC_ BK558.out 5).trans rfl; have hfz24_0 := bZ_ BK558.out 0; have hfz24_1 := bZ_ BK558.out 1; have hfz24_2 := bZ_ BK558.out 2; have hfz24_3 := bZ_ BK558.out 3; have hfz24_4 := bZ_ BK558.out 4; have hfz24_5 := bZ_ BK558.out 5) | (go_at_call 63; (with_reducible refine (isa_IsIns.calls k a1_0 a1_1 a1_2 a1_3 a1_4 a1_5 true _ A13.out).mono ?_); rintro e w25 ⟨rfl, hb⟩; have n0_ := As_.mk (kB_ (g := gb558) (o := .cells #[.int .i64 a1_0, .int .i64 a1_1, .int .i64 a1_2, .int .i64 a1_3, .int .i64 a1_4, .string a1_5] 24 (0, 0)) (by (with_reducible repeat (first | refine kN_ ?_ _ | refine kD_ ?_ | refine kA_ ?_ _)); exact BK558.out) hb); have n1_ := As_.mk (bT_ (by repeat (first | (with_reducible first | exact HB.out | apply bA_ | apply bN_ | apply b1_ | refine bS_ ?_ GE558.out) | exact HB.out)) hb); clear BK558; clear HB; have BK558 := n0_; have HB := n1_; clear n0_ n1_; have hcz26_0 : w25.cell? ⟨gb558, 0, none⟩ = some (.int .i64 a1_0) := (bC_ BK558.out 0).trans rfl; have hcz26_1 : w25.cell? ⟨gb558, 1, none⟩ = some (.int .i64 a1_1) := (bC_ BK558.out 1).trans rfl; have hcz26_2 : w25.cell? ⟨gb558, 2, none⟩ = some (.int .i64 a1_2) := (bC_ BK558.out 2).trans rfl; have hcz26_3 : w25.cell? ⟨gb558, 3, none⟩ = some (.int .i64 a1_3) := (bC_ BK558.out 3).trans rfl; have hcz26_4 : w25.cell? ⟨gb558, 4, none⟩ = some (.int .i64 a1_4) := (bC_ BK558.out 4).trans rfl; have hcz26_5 : w25.cell? ⟨gb558, 5, none⟩ = some (.string a1_5) := (bC_ BK558.out 5).trans rfl; have hfz26_0 := bZ_ BK558.out 0; have hfz26_1 := bZ_ BK558.out 1; have hfz26_2 := bZ_ BK558.out 2; have hfz26_3 := bZ_ BK558.out 3; have hfz26_4 := bZ_ BK558.out 4; have hfz26_5 := bZ_ BK558.out 5) | (go_at_call 64; (with_reducible refine (isa_Ends.calls a1_0 false _ A15.out).mono ?_); rintro e w' ⟨rfl, ⟨nd, rfl⟩⟩))
     go_meet
     case rel => exact ⟨_, ((a1_0 != 0)), (by first | rfl | (simp; done) | (simp [*]; done) | (simp [wrap64]; done) | (congr 1; rw [Bool.eq_iff_iff]; simp; done)), H', ⟨by first | omega | exact Nat.le_refl _⟩, ⟨by (with_reducible repeat (first | refine kN_ ?_ _ | refine kD_ ?_ | refine kA_ ?_ _)); exact BK558.out⟩, ⟨by repeat (first | (with_reducible first | exact HB.out | apply bA_ | apply bN_ | apply b1_ | refine bS_ ?_ GE558.out) | exact HB.out)⟩⟩
    replace c14 := Bool.eq_false_iff.mpr c14
    subst c14
    have H1 : (dag_Last.j0 k l0 l2 true a1_0 a1_1 a1_2 a1_3 a1_4 a1_5) = some (r1, r2) := by rw [if_neg (show ¬ (false = true) by decide)] at H; exact H
    clear H
    have H := H1
    clear H1
    have H' := As_.mk H
    clear H
    go_wp2_with (first | ((with_reducible refine gC_ (f := 55) rfl ?_); refine goesL_ (some 10) rfl rfl Try.func55 (by kernel_rfl) rfl #[.slice A0 l0.length c0] rfl (by (try simp only [List.map_toArray, List.map_cons, List.map_nil]); first | done | rfl) ?_; (with_reducible refine (dag_May.calls k _ _ l0 true _ ?side1 ?side2 A6.out).mono ?_); (case side1 => repeat (first | exact (Kd.C_below HR0.out HB.out) | (with_reducible refine Kd.C_alloc ?_ _) | (with_reducible refine Kd.C_drewN ?_ _) | (with_reducible refine Kd.C_drew ?_))); (case side2 => exact HC0.out); rintro e w27 ⟨rfl, hb⟩; refine ⟨_, rfl, ?_⟩; have n0_ := As_.mk (kB_ (g := gb558) (o := .cells #[.int .i64 a1_0, .int .i64 a1_1, .int .i64 a1_2, .int .i64 a1_3, .int .i64 a1_4, .string a1_5] 24 (0, 0)) (by (with_reducible repeat (first | refine kN_ ?_ _ | refine kD_ ?_ | refine kA_ ?_ _)); exact BK558.out) hb); have n1_ := As_.mk (bT_ (by repeat (first | (with_reducible first | exact HB.out | apply bA_ | apply bN_ | apply b1_ | refine bS_ ?_ GE558.out) | exact HB.out)) hb); clear BK558; clear HB; have BK558 := n0_; have HB := n1_; clear n0_ n1_) | (go_at_call 62; (with_reducible refine (sC_61.calls k _ _ l2  false _ ?side1 ?side2 A9.out).mono ?_); (case side1 => repeat (first | exact (Kd.C_below HR2.out HB.out) | (with_reducible refine Kd.C_alloc ?_ _) | (with_reducible refine Kd.C_drewN ?_ _) | (with_reducible refine Kd.C_drew ?_))); (case side2 => exact HC2.out); rintro e w28 ⟨rfl, hb⟩; have n0_ := As_.mk (kB_ (g := gb558) (o := .cells #[.int .i64 a1_0, .int .i64 a1_1, .int .i64 a1_2, .int .i64 a1_3, .int .i64 a1_4, .string a1_5] 24 (0, 0)) (by (with_reducible repeat (first | refine kN_ ?_ _ | refine kD_ ?_ | refine kA_ ?_ _)); exact BK558.out) hb); have n1_ := As_.mk (bT_ (by repeat (first | (with_reducible first | exact HB.out | apply bA_ | apply bN_ | apply b1_ | refine bS_ ?_ GE558.out) | exact HB.out)) hb); clear BK558; clear HB; have BK558 := n0_; have HB := n1_; clear n0_ n1_; have hcz29_0 : w28.cell? ⟨gb558, 0, none⟩ = some (.int .i64 a1_0) := (bC_ BK558.out 0).trans rfl; have hcz29_1 : w28.cell? ⟨gb558, 1, none⟩ = some (.int .i64 a1_1) := (bC_ BK558.out 1).trans rfl; have hcz29_2 : w28.cell? ⟨gb558, 2, none⟩ = some (.int .i64 a1_2) := (bC_ BK558.out 2).trans rfl; have hcz29_3 : w28.cell? ⟨gb558, 3, none⟩ = some (.int .i64 a1_3) := (bC_ BK558.out 3).trans rfl; have hcz29_4 : w28.cell? ⟨gb558, 4, none⟩ = some (.int .i64 a1_4) := (bC_ BK558.out 4).trans rfl; have hcz29_5 : w28.cell? ⟨gb558, 5, none⟩ = some (.string a1_5) := (bC_ BK558.out 5).trans rfl; have hfz29_0 := bZ_ BK558.out 0; have hfz29_1 := bZ_ BK558.out 1; have hfz29_2 := bZ_ BK558.out 2; have hfz29_3 := bZ_ BK558.out 3; have hfz29_4 := bZ_ BK558.out 4; have hfz29_5 := bZ_ BK558.out 5) | (go_at_call 63; (with_reducible refine (isa_IsIns.calls k a1_0 a1_1 a1_2 a1_3 a1_4 a1_5 false _ A13.out).mono ?_); rintro e w30 ⟨rfl, hb⟩; have n0_ := As_.mk (kB_ (g := gb558) (o := .cells #[.int .i64 a1_0, .int .i64 a1_1, .int .i64 a1_2, .int .i64 a1_3, .int .i64 a1_4, .string a1_5] 24 (0, 0)) (by (with_reducible repeat (first | refine kN_ ?_ _ | refine kD_ ?_ | refine kA_ ?_ _)); exact BK558.out) hb); have n1_ := As_.mk (bT_ (by repeat (first | (with_reducible first | exact HB.out | apply bA_ | apply bN_ | apply b1_ | refine bS_ ?_ GE558.out) | exact HB.out)) hb); clear BK558; clear HB; have BK558 := n0_; have HB := n1_; clear n0_ n1_))
    go_meet
    case rel => exact ⟨_, (true), (by first | rfl | (simp; done) | (simp [*]; done) | (simp [wrap64]; done) | (congr 1; rw [Bool.eq_iff_iff]; simp; done)), H', ⟨by first | omega | exact Nat.le_refl _⟩, ⟨by (with_reducible repeat (first | refine kN_ ?_ _ | refine kD_ ?_ | refine kA_ ?_ _)); exact BK558.out⟩, ⟨by repeat (first | (with_reducible first | exact HB.out | apply bA_ | apply bN_ | apply b1_ | refine bS_ ?_ GE558.out) | exact HB.out)⟩⟩
   rw [if_neg c8] at H
   have c8b0 : ((l2.length : Int) == (l0.length : Int)) = false := beq_eq_false_iff_ne.mpr c8
   have c8b1 : ((l2.length : Int) != (l0.length : Int)) = true := bne_iff_ne.mpr c8
   have c8b2 : (l2.length == l0.length) = false := by first | simpa using c8 | (simp at c8 ⊢; omega)
   (first | rw [c8b0] | (simp only [i64_w, i32_w]; rw [c8b0]) | skip)
   have H' := As_.mk H
   clear H
   go_wp2_with (first | ((with_reducible refine gC_ (f := 55) rfl ?_); refine goesL_ (some 10) rfl rfl Try.func55 (by kernel_rfl) rfl #[.slice A0 l0.length c0] rfl (by (try simp only [List.map_toArray, List.map_cons, List.map_nil]); first | done | rfl) ?_; (with_reducible refine (dag_May.calls k _ _ l0 true _ ?side1 ?side2 A6.out).mono ?_); (case side1 => repeat (first | exact (Kd.C_below HR0.out HB.out) | (with_reducible refine Kd.C_alloc ?_ _) | (with_reducible refine Kd.C_drewN ?_ _) | (with_reducible refine Kd.C_drew ?_))); (case side2 => exact HC0.out); rintro e w31 ⟨rfl, hb⟩; refine ⟨_, rfl, ?_⟩; have n0_ := As_.mk (kB_ (g := gb558) (o := .cells #[.int .i64 a1_0, .int .i64 a1_1, .int .i64 a1_2, .int .i64 a1_3, .int .i64 a1_4, .string a1_5] 24 (0, 0)) (by (with_reducible repeat (first | refine kN_ ?_ _ | refine kD_ ?_ | refine kA_ ?_ _)); exact BK558.out) hb); have n1_ := As_.mk (bT_ (by repeat (first | (with_reducible first | exact HB.out | apply bA_ | apply bN_ | apply b1_ | refine bS_ ?_ GE558.out) | exact HB.out)) hb); clear BK558; clear HB; have BK558 := n0_; have HB := n1_; clear n0_ n1_))
   go_meet
   case rel => exact ⟨_, (true), (by first | rfl | (simp; done) | (simp [*]; done) | (simp [wrap64]; done) | (congr 1; rw [Bool.eq_iff_iff]; simp; done)), H', ⟨by first | omega | exact Nat.le_refl _⟩, ⟨by (with_reducible repeat (first | refine kN_ ?_ _ | refine kD_ ?_ | refine kA_ ?_ _)); exact BK558.out⟩, ⟨by repeat (first | (with_reducible first | exact HB.out | apply bA_ | apply bN_ | apply b1_ | refine bS_ ?_ GE558.out) | exact HB.out)⟩⟩
  replace c7 := Bool.eq_false_iff.mpr c7
  subst c7
  have H1 : (dag_Last.j0 k l0 l2 true a1_0 a1_1 a1_2 a1_3 a1_4 a1_5) = some (r1, r2) := by rw [if_neg (show ¬ (false = true) by decide)] at H; exact H
  clear H
  have H := H1
  clear H1
  have H' := As_.mk H
  clear H
  go_wp2_with (first | ((with_reducible refine gC_ (f := 55) rfl ?_); refine goesL_ (some 10) rfl rfl Try.func55 (by kernel_rfl) rfl #[.slice A0 l0.length c0] rfl (by (try simp only [List.map_toArray, List.map_cons, List.map_nil]); first | done | rfl) ?_; (with_reducible refine (dag_May.calls k _ _ l0 false _ ?side1 ?side2 A6.out).mono ?_); (case side1 => repeat (first | exact (Kd.C_below HR0.out HB.out) | (with_reducible refine Kd.C_alloc ?_ _) | (with_reducible refine Kd.C_drewN ?_ _) | (with_reducible refine Kd.C_drew ?_))); (case side2 => exact HC0.out); rintro e w32 ⟨rfl, hb⟩; refine ⟨_, rfl, ?_⟩; have n0_ := As_.mk (kB_ (g := gb558) (o := .cells #[.int .i64 a1_0, .int .i64 a1_1, .int .i64 a1_2, .int .i64 a1_3, .int .i64 a1_4, .string a1_5] 24 (0, 0)) (by (with_reducible repeat (first | refine kN_ ?_ _ | refine kD_ ?_ | refine kA_ ?_ _)); exact BK558.out) hb); have n1_ := As_.mk (bT_ (by repeat (first | (with_reducible first | exact HB.out | apply bA_ | apply bN_ | apply b1_ | refine bS_ ?_ GE558.out) | exact HB.out)) hb); clear BK558; clear HB; have BK558 := n0_; have HB := n1_; clear n0_ n1_))
  go_meet
  case rel => exact ⟨_, (true), (by first | rfl | (simp; done) | (simp [*]; done) | (simp [wrap64]; done) | (congr 1; rw [Bool.eq_iff_iff]; simp; done)), H', ⟨by first | omega | exact Nat.le_refl _⟩, ⟨by (with_reducible repeat (first | refine kN_ ?_ _ | refine kD_ ?_ | refine kA_ ?_ _)); exact BK558.out⟩, ⟨by repeat (first | (with_reducible first | exact HB.out | apply bA_ | apply bN_ | apply b1_ | refine bS_ ?_ GE558.out) | exact HB.out)⟩⟩
 case rest =>
  clear HC4
  obtain ⟨kq, x39_3, rfl, HA, HJ3, BK558, HB⟩ := hcut
  cases kq with
  | zero => exact absurd HA.out (by simp [dag_Last.j0])
  | succ kj3 =>
   have H := HA.out
   clear HA
   simp only [dag_Last.j0] at H
   by_cases c33 : x39_3 = true
   ·subst c33
    have H1 : (some (0, 1)) = some (r1, r2) := by rw [if_pos rfl] at H; exact H
    clear H
    have H := H1
    clear H1
    simp only [Option.some.injEq, Prod.mk.injEq] at H
    obtain ⟨rfl, rfl⟩ := H
    go_wp2
    go_ret2
    exact ⟨by first | rfl | (simp [eN_, eS_] <;> rfl) | (simp [*, eN_, eS_] <;> rfl), by repeat (first | (with_reducible first | exact HB.out | apply bA_ | apply bN_ | apply b1_ | refine bS_ ?_ GE558.out) | exact HB.out)⟩
   replace c33 := Bool.eq_false_iff.mpr c33
   subst c33
   have H1 : ((dag_Least.f kj3 l0 a1_0 a1_1 a1_2 a1_3 a1_4 a1_5 l2).bind fun t563 => (some (t563, 0))) = some (r1, r2) := by rw [if_neg (show ¬ (false = true) by decide)] at H; exact H
   clear H
   have H := H1
   clear H1
   replace H := Option.bind_eq_some_iff.mp H
   obtain ⟨t563, A340, H⟩ := H
   replace H : (some (t563, 0)) = some (r1, r2) := H
   have A34 := As_.mk A340
   clear A340
   simp only [Option.some.injEq, Prod.mk.injEq] at H
   obtain ⟨rfl, rfl⟩ := H
   have hcz35_0 : wc.cell? ⟨gb558, 0, none⟩ = some (.int .i64 a1_0) := (bC_ BK558.out 0).trans rfl
   have hcz35_1 : wc.cell? ⟨gb558, 1, none⟩ = some (.int .i64 a1_1) := (bC_ BK558.out 1).trans rfl
   have hcz35_2 : wc.cell? ⟨gb558, 2, none⟩ = some (.int .i64 a1_2) := (bC_ BK558.out 2).trans rfl
   have hcz35_3 : wc.cell? ⟨gb558, 3, none⟩ = some (.int .i64 a1_3) := (bC_ BK558.out 3).trans rfl
   have hcz35_4 : wc.cell? ⟨gb558, 4, none⟩ = some (.int .i64 a1_4) := (bC_ BK558.out 4).trans rfl
   have hcz35_5 : wc.cell? ⟨gb558, 5, none⟩ = some (.string a1_5) := (bC_ BK558.out 5).trans rfl
   have hfz35_0 := bZ_ BK558.out 0
   have hfz35_1 := bZ_ BK558.out 1
   have hfz35_2 := bZ_ BK558.out 2
   have hfz35_3 := bZ_ BK558.out 3
   have hfz35_4 := bZ_ BK558.out 4
   have hfz35_5 := bZ_ BK558.out 5
   go_wp2_with (first | ((with_reducible refine gC_ (f := 65) rfl ?_); refine goesL_ (some 43) rfl rfl Try.func65 (by kernel_rfl) rfl #[.slice A0 l0.length c0, .agg #[.int .i64 a1_0, .int .i64 a1_1, .int .i64 a1_2, .int .i64 a1_3, .int .i64 a1_4, .string a1_5], .slice A2 l2.length c2] rfl (by (try simp only [List.map_toArray, List.map_cons, List.map_nil]); first | done | rfl) ?_; (with_reducible refine (dag_Least.calls kj3 _ _ l0 a1_0 a1_1 a1_2 a1_3 a1_4 a1_5 _ _ l2 t563 _ ?side1 ?side2 ?side3 ?side4 A34.out).mono ?_); (case side1 => repeat (first | exact (Kd.C_below HR0.out HB.out) | (with_reducible refine Kd.C_alloc ?_ _) | (with_reducible refine Kd.C_drewN ?_ _) | (with_reducible refine Kd.C_drew ?_))); (case side2 => exact HC0.out); (case side3 => repeat (first | exact (Kd.C_below HR2.out HB.out) | (with_reducible refine Kd.C_alloc ?_ _) | (with_reducible refine Kd.C_drewN ?_ _) | (with_reducible refine Kd.C_drew ?_))); (case side4 => exact HC2.out); rintro e w36 ⟨rfl, hb⟩; refine ⟨_, rfl, ?_⟩; have n0_ := As_.mk (kB_ (g := gb558) (o := .cells #[.int .i64 a1_0, .int .i64 a1_1, .int .i64 a1_2, .int .i64 a1_3, .int .i64 a1_4, .string a1_5] 24 (0, 0)) (by (with_reducible repeat (first | refine kN_ ?_ _ | refine kD_ ?_ | refine kA_ ?_ _)); exact BK558.out) hb); have n1_ := As_.mk (bT_ (by repeat (first | (with_reducible first | exact HB.out | apply bA_ | apply bN_ | apply b1_ | refine bS_ ?_ GE558.out) | exact HB.out)) hb); clear BK558; clear HB; have BK558 := n0_; have HB := n1_; clear n0_ n1_))
   go_ret2
   exact ⟨by first | rfl | (simp [eN_, eS_] <;> rfl) | (simp [*, eN_, eS_] <;> rfl), by repeat (first | (with_reducible first | exact HB.out | apply bA_ | apply bN_ | apply b1_ | refine bS_ ?_ GE558.out) | exact HB.out)⟩
end Go.Proofs.Ytibfkkjkahpobaa.PDag
