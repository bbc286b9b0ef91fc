import Derived.Test.YtibfkkjkahpobaaKq37
import Derived.Test.YtibfkkjkahpobaaKq15
import Derived.Test.YtibfkkjkahpobaaKq19
import Derived.Test.YtibfkkjkahpobaaKq23
set_option linter.unusedVariables false
set_option linter.unusedSimpArgs false
open Go.RowKit Go.Proofs.YtibfkkjkahpobaaW.PrintWords Go.Proofs.YtibfkkjkahpobaaW.PrintLast Go.Proofs.YtibfkkjkahpobaaW.PrintMore
section
namespace Go.Proofs.Ytibfkkjkahpobaa.PDag
attribute [local go_sem] max2_int min2_int max_two min_two max_three min_three max_four min_four   -- for this text's walks alone
mutual
def w15_SchedEnds.l0 : Nat → Int → List (S24) → Int → Int → Int → Int → Int → ByteArray → List Int → List ByteArray → List (S140) → List (S73) → List (S81) → Option (Bool)
  | 0, _, _, _, _, _, _, _, _, _, _, _, _, _ => none
  | k + 1, x3, x758a, x758b, x758c, x758d, x758e, x758f, x758g, x758h, x758i, x758j, y5810, y5811 => if x3 < 28 then (w15_SchedEnds.l1 k x3 28 x758a x758b x758c x758d x758e x758f x758g x758h x758i x758j y5810 y5811) else ((w15_wakes.f k).bind fun t758 => (some t758))
def w15_SchedEnds.l1 : Nat → Int → Int → List (S24) → Int → Int → Int → Int → Int → ByteArray → List Int → List ByteArray → List (S140) → List (S73) → List (S81) → Option (Bool)
  | 0, _, _, _, _, _, _, _, _, _, _, _, _, _, _ => none
  | k + 1, x3, x4, x758a, x758b, x758c, x758d, x758e, x758f, x758g, x758h, x758i, x758j, y5810, y5811 => if x4 ≤ 33 then ((r3_Form.f x4).bind fun t760 => ((r3_Target.f t760).bind fun t761 => (if t761 = true then (w15_SchedEnds.j2 k x3 x4 x758a x758b x758c x758d x758e x758f x758g x758h x758i x758j y5810 y5811 x4 0 0 0 0 (⟨#[97]⟩ : ByteArray)) else (w15_SchedEnds.j2 k x3 x4 x758a x758b x758c x758d x758e x758f x758g x758h x758i x758j y5810 y5811 x4 0 0 0 0 (⟨#[]⟩ : ByteArray))))) else (w15_SchedEnds.l0 k (wrap64 (x3 + 1)) x758a x758b x758c x758d x758e x758f x758g x758h x758i x758j y5810 y5811)
def w15_SchedEnds.j2 : Nat → Int → Int → List (S24) → Int → Int → Int → Int → Int → ByteArray → List Int → List ByteArray → List (S140) → List (S73) → List (S81) → Int → Int → Int → Int → Int → ByteArray → Option (Bool)
  | 0, _, _, _, _, _, _, _, _, _, _, _, _, _, _, _, _, _, _, _, _ => none
  | k + 1, x3, x4, x758a, x758b, x758c, x758d, x758e, x758f, x758g, x758h, x758i, x758j, y5810, y5811, x760a, x760b, x760c, x760d, x760e, x760f => (r3_Form.f x4).bind fun t762 => ((r3_HasA.f t762).bind fun t763 => (if t763 = true then (w15_SchedEnds.j3 k x3 x4 x758a x758b x758c x758d x758e x758f x758g x758h x758i x758j y5810 y5811 x760a x760b ((y5811.length : Int) % 2) x760d x760e x760f) else (w15_SchedEnds.j3 k x3 x4 x758a x758b x758c x758d x758e x758f x758g x758h x758i x758j y5810 y5811 x760a x760b x760c x760d x760e x760f)))
def w15_SchedEnds.j3 : Nat → Int → Int → List (S24) → Int → Int → Int → Int → Int → ByteArray → List Int → List ByteArray → List (S140) → List (S73) → List (S81) → Int → Int → Int → Int → Int → ByteArray → Option (Bool)
  | 0, _, _, _, _, _, _, _, _, _, _, _, _, _, _, _, _, _, _, _, _ => none
  | k + 1, x3, x4, x758a, x758b, x758c, x758d, x758e, x758f, x758g, x758h, x758i, x758j, y5810, y5811, x760a, x760b, x760c, x760d, x760e, x760f => w15_SchedEnds.l2 k x3 x4 0 x758a x758b x758c x758d x758e x758f x758g x758h x758i x758j y5810 y5811 x760a x760b x760c x760d x760e x760f
def w15_SchedEnds.l2 : Nat → Int → Int → Int → List (S24) → Int → Int → Int → Int → Int → ByteArray → List Int → List ByteArray → List (S140) → List (S73) → List (S81) → Int → Int → Int → Int → Int → ByteArray → Option (Bool)
  | 0, _, _, _, _, _, _, _, _, _, _, _, _, _, _, _, _, _, _, _, _, _ => none
  | k + 1, x3, x4, x6, x758a, x758b, x758c, x758d, x758e, x758f, x758g, x758h, x758i, x758j, y5810, y5811, x760a, x760b, x760c, x760d, x760e, x760f => if x6 < 4 then ((w15_row.f k x6 (Int.tmod x6 2) (([x3, 1] : List Int))).bind fun t767 => ((w15_placed.f k ([] : List ByteArray) t767 x760a x760b x760c x760d x760e x760f).bind fun t770 => (if t770 = true then (w15_SchedEnds.l2 k x3 x4 (wrap64 (x6 + 1)) x758a x758b x758c x758d x758e x758f x758g x758h x758i x758j y5810 y5811 x760a x760b x760c x760d x760e x760f) else (some false)))) else (w15_SchedEnds.l1 k x3 (wrap64 (x4 + 1)) x758a x758b x758c x758d x758e x758f x758g x758h x758i x758j y5810 y5811)
end
def w15_SchedEnds.f (k : Nat) (l0_0 : List (S24)) (a0_1 : Int) (a0_2 : Int) (a0_3 : Int) (a0_4 : Int) (a0_5 : Int) (a0_6 : ByteArray) (l0_7 : List Int) (l0_8 : List ByteArray) (l0_9 : List (S140)) (l0_10 : List (S73)) (l0_11 : List (S81)) : Option (Bool) := w15_SchedEnds.l0 k 1 l0_0 a0_1 a0_2 a0_3 a0_4 a0_5 a0_6 l0_7 l0_8 l0_9 l0_10 l0_11
def w15_SchedEnds.T15 : Bool × List (List Nat × List Nat) := (true, [([], []), ([], []), ([1], [1]), ([], []), ([3], [3]), ([0, 2, 4], [0, 2, 4]), ([], []), ([5, 6], [5, 6]), ([7, 5], [7]), ([8], [8])])
def w15_SchedEnds.B15 : List Nat := [0, 0, 2, 0, 8, 31, 0, 127, 255, 511]
theorem w15_SchedEnds.tab15 : rtab .any (opsOf Try.f11 15) = w15_SchedEnds.T15 := by kernel_rfl
theorem w15_SchedEnds.bits15 : waitsOk w15_SchedEnds.T15.2 w15_SchedEnds.B15 = true := by kernel_rfl
set_option maxHeartbeats 8000000 in
set_option maxRecDepth 100000 in
theorem w15_SchedEnds.calls (k : Nat) (A0_0 : Option Addr) (c0_0 : Nat) (l0_0 : List (S24)) (a0_1 : Int) (a0_2 : Int) (a0_3 : Int) (a0_4 : Int) (a0_5 : Int) (a0_6 : ByteArray) (A0_7 : Option Addr) (c0_7 : Nat) (l0_7 : List Int) (A0_8 : Option Addr) (c0_8 : Nat) (l0_8 : List ByteArray) (A0_9 : Option Addr) (c0_9 : Nat) (l0_9 : List (S140)) (A0_10 : Option Addr) (c0_10 : Nat) (l0_10 : List (S73)) (A0_11 : Option Addr) (c0_11 : Nat) (l0_11 : List (S81)) (r : Bool) (w : World) (hr0_0 : Kd.C k24 w A0_0 l0_0.length l0_0) (hc0_0 : l0_0.length ≤ c0_0) (hr0_7 : Kd.C (Kd.int .i64) w A0_7 l0_7.length l0_7) (hc0_7 : l0_7.length ≤ c0_7) (hr0_8 : Kd.C Kd.string w A0_8 l0_8.length l0_8) (hc0_8 : l0_8.length ≤ c0_8) (hr0_9 : Kd.C k140 w A0_9 l0_9.length l0_9) (hc0_9 : l0_9.length ≤ c0_9) (hr0_10 : Kd.C k73 w A0_10 l0_10.length l0_10) (hc0_10 : l0_10.length ≤ c0_10) (hr0_11 : Kd.C k81 w A0_11 l0_11.length l0_11) (hc0_11 : l0_11.length ≤ c0_11) (h : w15_SchedEnds.f k l0_0 a0_1 a0_2 a0_3 a0_4 a0_5 a0_6 l0_7 l0_8 l0_9 l0_10 l0_11 = some r) :
    Calls Try.prog 11 #[.agg #[.slice A0_0 l0_0.length c0_0, .int .i64 a0_1, .int .i64 a0_2, .int .i64 a0_3, .int .i64 a0_4, .int .i64 a0_5, .string a0_6, .slice A0_7 l0_7.length c0_7, .slice A0_8 l0_8.length c0_8, .slice A0_9 l0_9.length c0_9, .slice A0_10 l0_10.length c0_10, .slice A0_11 l0_11.length c0_11]] w fun e w' => e = .returned (.bool r) ∧ Below w.heap.size w w' := by
 have hu67 := Try.underlying67
 have hu24 := Try.underlying24
 have hu73 := Try.underlying73
 have HR0_0 := As_.mk hr0_0
 have HC0_0 := As_.mk hc0_0
 clear hr0_0 hc0_0
 have HR0_7 := As_.mk hr0_7
 have HC0_7 := As_.mk hc0_7
 clear hr0_7 hc0_7
 have HR0_8 := As_.mk hr0_8
 have HC0_8 := As_.mk hc0_8
 clear hr0_8 hc0_8
 have HR0_9 := As_.mk hr0_9
 have HC0_9 := As_.mk hc0_9
 clear hr0_9 hc0_9
 have HR0_10 := As_.mk hr0_10
 have HC0_10 := As_.mk hc0_10
 clear hr0_10 hc0_10
 have HR0_11 := As_.mk hr0_11
 have HC0_11 := As_.mk hc0_11
 clear hr0_11 hc0_11
 have HB := As_.mk (Below.refl w.heap.size w)
 have H : (w15_SchedEnds.l0 k 1 l0_0 a0_1 a0_2 a0_3 a0_4 a0_5 a0_6 l0_7 l0_8 l0_9 l0_10 l0_11) = some r := h
 clear h
 have H' := As_.mk H
 clear H
 go_enter Try.func11, Try.ntmps11
 go_wp2_with (first | ((with_reducible refine gate_dst (N := 1) rfl ?_); refine bX_ (N := 1) (cs := #[.slice A0_0 l0_0.length c0_0, .int .i64 a0_1, .int .i64 a0_2, .int .i64 a0_3, .int .i64 a0_4, .int .i64 a0_5, .string a0_6, .slice A0_7 l0_7.length c0_7, .slice A0_8 l0_8.length c0_8, .slice A0_9 l0_9.length c0_9, .slice A0_10 l0_10.length c0_10, .slice A0_11 l0_11.length c0_11]) (t := 67) ?_; intro gb757 hg w2 hbox hb; replace BK757 := As_.mk (hbox); replace GW757 := As_.mk ((by rw [hg]; exact (bY_ (bl_ HB)) : w.heap.size ≤ gb757)); replace GE757 := As_.mk ((by rw [hg]; exact (bY_ (bl_ HB)) : w.heap.size ≤ gb757)); replace HB := As_.mk (bT_ (bl_ HB) hb); clear hb hbox hg))
 go_loopg [3] k (fun kq v3 w' => ∃ (x3_1 : Int), v3 = .int .i64 x3_1 ∧ As_ (w15_SchedEnds.l0 kq x3_1 l0_0 a0_1 a0_2 a0_3 a0_4 a0_5 a0_6 l0_7 l0_8 l0_9 l0_10 l0_11 = some r) ∧ As_ (kq ≤ k) ∧ As_ (w'.heap[gb757]? = some (.cells #[(.slice A0_0 l0_0.length c0_0), .int .i64 a0_1, .int .i64 a0_2, .int .i64 a0_3, .int .i64 a0_4, .int .i64 a0_5, .string a0_6, (.slice A0_7 l0_7.length c0_7), (.slice A0_8 l0_8.length c0_8), (.slice A0_9 l0_9.length c0_9), (.slice A0_10 l0_10.length c0_10), (.slice A0_11 l0_11.length c0_11)] 67 (0, 0))) ∧ As_ (Below w.heap.size w w'))
 case atStart => exact ⟨(1), eQ_, H', ⟨Nat.le_refl _⟩, ⟨rB_ BK757⟩, ⟨bs_ HB GE757⟩⟩
 case round =>
  clear H'
  obtain ⟨x3_1, rfl, HA, HK1, BK757, HB⟩ := hrel
  cases gk with
  | zero => exact absurd HA.out (by simp [w15_SchedEnds.l0])
  | succ k1 =>
   have H := HA.out
   clear HA
   simp only [w15_SchedEnds.l0] at H
   by_cases c3 : x3_1 < 28
   ·rw [if_pos c3] at H
    have c3b0 := decide_eq_true c3
    clear c3
    have H' := As_.mk H
    clear H
    go_wp2
    go_loopg [4] k1 (fun kq v4 w' => ∃ (x4_2 : Int), v4 = .int .i64 x4_2 ∧ As_ (w15_SchedEnds.l1 kq x3_1 x4_2 l0_0 a0_1 a0_2 a0_3 a0_4 a0_5 a0_6 l0_7 l0_8 l0_9 l0_10 l0_11 = some r) ∧ As_ (kq ≤ k1) ∧ As_ (w'.heap[gb757]? = some (.cells #[(.slice A0_0 l0_0.length c0_0), .int .i64 a0_1, .int .i64 a0_2, .int .i64 a0_3, .int .i64 a0_4, .int .i64 a0_5, .string a0_6, (.slice A0_7 l0_7.length c0_7), (.slice A0_8 l0_8.length c0_8), (.slice A0_9 l0_9.length c0_9), (.slice A0_10 l0_10.length c0_10), (.slice A0_11 l0_11.length c0_11)] 67 (0, 0))) ∧ As_ (Below w.heap.size w w'))
    case atStart => exact ⟨(28), eQ_, H', ⟨Nat.le_refl _⟩, ⟨rB_ BK757⟩, ⟨bs_ HB GE757⟩⟩
    case round =>
     clear H'
     obtain ⟨x4_2, rfl, HA, HK2, BK757, HB⟩ := hrel
     cases gk with
     | zero => exact absurd HA.out (by simp [w15_SchedEnds.l1])
     | succ k2 =>
      have H := HA.out
      clear HA
      simp only [w15_SchedEnds.l1] at H
      by_cases c4 : x4_2 ≤ 33
      ·rw [if_pos c4] at H
       have c4b0 := decide_eq_true c4
       clear c4
       replace H := oB_ H
       obtain ⟨t760, A50, H⟩ := H
       have A5 := As_.mk A50
       clear A50
       replace H := oB_ H
       obtain ⟨t761, A60, H⟩ := H
       have A6 := As_.mk A60
       clear A60
       have HC7 := As_.mk H
       clear H
       go_upto_if 19 with (first | ((with_reducible refine gate_dst (N := 5) rfl ?_); refine bX_ (N := 5) (cs := #[.int .i64 0, .int .i64 0, .int .i64 0, .int .i64 0, .int .i64 0, .string (⟨#[]⟩ : ByteArray)]) (t := 24) ?_; intro gb759 hg w8 hbox hb; replace BK759 := As_.mk (hbox); replace GW759 := As_.mk ((by rw [hg]; exact (bY_ (bs_ HB GE757)) : w.heap.size ≤ gb759)); replace GE759 := As_.mk ((by rw [hg]; exact (bY_ (bs_ HB GE757)) : w.heap.size ≤ gb759)); replace HB := As_.mk (bT_ (bs_ HB GE757) hb); replace NB757_759 := As_.mk ((by rw [hg]; exact Nat.ne_of_lt (blk_lt (g := gb757) (o := .cells #[.slice A0_0 l0_0.length c0_0, .int .i64 a0_1, .int .i64 a0_2, .int .i64 a0_3, .int .i64 a0_4, .int .i64 a0_5, .string a0_6, .slice A0_7 l0_7.length c0_7, .slice A0_8 l0_8.length c0_8, .slice A0_9 l0_9.length c0_9, .slice A0_10 l0_10.length c0_10, .slice A0_11 l0_11.length c0_11] 67 (0, 0)) (rB_ BK757)) : gb757 ≠ gb759)); replace NB759_757 := As_.mk ((by rw [hg]; exact Nat.ne_of_gt (blk_lt (g := gb757) (o := .cells #[.slice A0_0 l0_0.length c0_0, .int .i64 a0_1, .int .i64 a0_2, .int .i64 a0_3, .int .i64 a0_4, .int .i64 a0_5, .string a0_6, .slice A0_7 l0_7.length c0_7, .slice A0_8 l0_8.length c0_8, .slice A0_9 l0_9.length c0_9, .slice A0_10 l0_10.length c0_10, .slice A0_11 l0_11.length c0_11] 67 (0, 0)) (rB_ BK757)) : gb759 ≠ gb757)); replace BK757 := As_.mk (kB_ (rB_ BK757) hb); clear hb hbox hg; have hnb9 := NB759_757.out; have hnc9 := NB757_759.out; obtain ⟨hcz10_0, hcz10_1, hcz10_2, hcz10_3, hcz10_4, hcz10_5⟩ := cl6_ BK759.out; obtain ⟨hfz10_0, hfz10_1, hfz10_2, hfz10_3, hfz10_4, hfz10_5⟩ := fz6_ BK759.out) | ((with_reducible refine gC_ (f := 15) rfl ?_); refine gL_ (some 18) Try.func15 #[.int .i64 x4_2] rfl ?_; (with_reducible refine (r3_Form.calls x4_2 t760 _ A5.out).mono ?_); rintro e w11 ⟨rfl, hb⟩; refine ⟨_, rfl, ?_⟩; replace BK757 := As_.mk (kB_ (g := gb757) (o := .cells #[.slice A0_0 l0_0.length c0_0, .int .i64 a0_1, .int .i64 a0_2, .int .i64 a0_3, .int .i64 a0_4, .int .i64 a0_5, .string a0_6, .slice A0_7 l0_7.length c0_7, .slice A0_8 l0_8.length c0_8, .slice A0_9 l0_9.length c0_9, .slice A0_10 l0_10.length c0_10, .slice A0_11 l0_11.length c0_11] 67 (0, 0)) (by (with_reducible repeat (first | refine kN_ ?_ _ | refine kD_ ?_ | refine kA_ ?_ _)); refine blk_far ?_ NB757_759.out _; (with_reducible repeat (first | refine kN_ ?_ _ | refine kD_ ?_ | refine kA_ ?_ _)); refine blk_far ?_ NB757_759.out _; (with_reducible repeat (first | refine kN_ ?_ _ | refine kD_ ?_ | refine kA_ ?_ _)); refine blk_far ?_ NB757_759.out _; (with_reducible repeat (first | refine kN_ ?_ _ | refine kD_ ?_ | refine kA_ ?_ _)); refine blk_far ?_ NB757_759.out _; (with_reducible repeat (first | refine kN_ ?_ _ | refine kD_ ?_ | refine kA_ ?_ _)); refine blk_far ?_ NB757_759.out _; (with_reducible repeat (first | refine kN_ ?_ _ | refine kD_ ?_ | refine kA_ ?_ _)); refine blk_far ?_ NB757_759.out _; (with_reducible repeat (first | refine kN_ ?_ _ | refine kD_ ?_ | refine kA_ ?_ _)); exact BK757.out) hb); replace BK759 := As_.mk (kB_ (g := gb759) (o := .cells #[.int .i64 x4_2, .int .i64 0, .int .i64 0, .int .i64 0, .int .i64 0, .string (⟨#[]⟩ : ByteArray)] 24 (0, 0)) (by (with_reducible repeat (first | refine kN_ ?_ _ | refine kD_ ?_ | refine kA_ ?_ _)); refine blk_put (cs := #[.int .i64 x4_2, .int .i64 0, .int .i64 0, .int .i64 0, .int .i64 0, .string (⟨#[]⟩ : ByteArray)]) ?_ 5 _ rfl; (with_reducible repeat (first | refine kN_ ?_ _ | refine kD_ ?_ | refine kA_ ?_ _)); refine blk_put (cs := #[.int .i64 x4_2, .int .i64 0, .int .i64 0, .int .i64 0, .int .i64 0, .string (⟨#[]⟩ : ByteArray)]) ?_ 4 _ rfl; (with_reducible repeat (first | refine kN_ ?_ _ | refine kD_ ?_ | refine kA_ ?_ _)); refine blk_put (cs := #[.int .i64 x4_2, .int .i64 0, .int .i64 0, .int .i64 0, .int .i64 0, .string (⟨#[]⟩ : ByteArray)]) ?_ 3 _ rfl; (with_reducible repeat (first | refine kN_ ?_ _ | refine kD_ ?_ | refine kA_ ?_ _)); refine blk_put (cs := #[.int .i64 x4_2, .int .i64 0, .int .i64 0, .int .i64 0, .int .i64 0, .string (⟨#[]⟩ : ByteArray)]) ?_ 2 _ rfl; (with_reducible repeat (first | refine kN_ ?_ _ | refine kD_ ?_ | refine kA_ ?_ _)); refine blk_put (cs := #[.int .i64 x4_2, .int .i64 0, .int .i64 0, .int .i64 0, .int .i64 0, .string (⟨#[]⟩ : ByteArray)]) ?_ 1 _ rfl; (with_reducible repeat (first | refine kN_ ?_ _ | refine kD_ ?_ | refine kA_ ?_ _)); refine blk_put (cs := #[.int .i64 0, .int .i64 0, .int .i64 0, .int .i64 0, .int .i64 0, .string (⟨#[]⟩ : ByteArray)]) ?_ 0 _ rfl; (with_reducible repeat (first | refine kN_ ?_ _ | refine kD_ ?_ | refine kA_ ?_ _)); exact BK759.out) hb); replace HB := As_.mk (bT_ (by repeat (first | (with_reducible first | exact HB.out | apply bA_ | apply bN_ | apply b1_ | refine bS_ ?_ GE757.out | refine bS_ ?_ GE759.out) | exact HB.out)) hb)) | ((with_reducible refine gC_ (f := 43) rfl ?_); refine gL_ (some 19) Try.func43 #[.int .i64 t760] rfl ?_; (with_reducible refine (r3_Target.calls t760 t761 _ A6.out).mono ?_); rintro e w' ⟨rfl, ⟨nd, rfl⟩⟩; refine ⟨_, rfl, ?_⟩))
       (try simp only [Act.put, List.setIfInBounds_toArray, List.set_cons_zero, List.set_cons_succ])
       go_cut [] (fun wc => ∃ (kq : Nat) (x760f_6 : ByteArray), As_ (w15_SchedEnds.j2 kq x3_1 x4_2 l0_0 a0_1 a0_2 a0_3 a0_4 a0_5 a0_6 l0_7 l0_8 l0_9 l0_10 l0_11 x4_2 0 0 0 0 x760f_6 = some r) ∧ As_ (kq ≤ k2) ∧ As_ (wc.heap[gb757]? = some (.cells #[(.slice A0_0 l0_0.length c0_0), .int .i64 a0_1, .int .i64 a0_2, .int .i64 a0_3, .int .i64 a0_4, .int .i64 a0_5, .string a0_6, (.slice A0_7 l0_7.length c0_7), (.slice A0_8 l0_8.length c0_8), (.slice A0_9 l0_9.length c0_9), (.slice A0_10 l0_10.length c0_10), (.slice A0_11 l0_11.length c0_11)] 67 (0, 0))) ∧ As_ (wc.heap[gb759]? = some (.cells #[.int .i64 x4_2, .int .i64 0, .int .i64 0, .int .i64 0, .int .i64 0, .string x760f_6] 24 (0, 0))) ∧ As_ (Below w.heap.size w wc))
       case first =>
        have H := HC7.out
        clear HC7
        by_cases c12 : t761 = true
        ·subst c12
         rw [if_pos rfl] at H
         have H' := As_.mk H
         clear H
         have hnb13 := NB759_757.out
         have hnc13 := NB757_759.out
         obtain ⟨hcz14_0, hcz14_1, hcz14_2, hcz14_3, hcz14_4, hcz14_5⟩ := cl6_ BK759.out
         obtain ⟨hfz14_0, hfz14_1, hfz14_2, hfz14_3, hfz14_4, hfz14_5⟩ := fz6_ BK759.out
         go_wp2
         go_meet
         case rel => exact ⟨_, ((⟨#[97]⟩ : ByteArray)), H', ⟨by have := HK1.out; have := HK2.out; first | omega | exact Nat.le_refl _⟩, ⟨by (with_reducible repeat (first | refine kN_ ?_ _ | refine kD_ ?_ | refine kA_ ?_ _)); refine blk_far ?_ NB757_759.out _; (with_reducible repeat (first | refine kN_ ?_ _ | refine kD_ ?_ | refine kA_ ?_ _)); exact BK757.out⟩, ⟨by (with_reducible repeat (first | refine kN_ ?_ _ | refine kD_ ?_ | refine kA_ ?_ _)); refine blk_put (cs := #[.int .i64 x4_2, .int .i64 0, .int .i64 0, .int .i64 0, .int .i64 0, .string (⟨#[]⟩ : ByteArray)]) ?_ 5 _ rfl; (with_reducible repeat (first | refine kN_ ?_ _ | refine kD_ ?_ | refine kA_ ?_ _)); exact BK759.out⟩, ⟨by repeat (first | (with_reducible first | exact HB.out | apply bA_ | apply bN_ | apply b1_ | refine bS_ ?_ GE757.out | refine bS_ ?_ GE759.out) | exact HB.out)⟩⟩
        replace c12 := eF_ c12
        subst c12
        rw [if_neg Bool.false_ne_true] at H
        have H' := As_.mk H
        clear H
        go_wp2
        go_meet
        case rel => exact ⟨_, ((⟨#[]⟩ : ByteArray)), H', ⟨by have := HK1.out; have := HK2.out; first | omega | exact Nat.le_refl _⟩, ⟨rB_ BK757⟩, ⟨rB_ BK759⟩, ⟨by repeat (first | (with_reducible first | exact HB.out | apply bA_ | apply bN_ | apply b1_ | refine bS_ ?_ GE757.out | refine bS_ ?_ GE759.out) | exact HB.out)⟩⟩
       case rest =>
        clear HC7
        obtain ⟨kq, x760f_6, HA, HJ6, BK757, BK759, HB⟩ := hcut
        cases kq with
        | zero => exact absurd HA.out (by simp [w15_SchedEnds.j2])
        | succ kj6 =>
         have H := HA.out
         clear HA
         simp only [w15_SchedEnds.j2] at H
         replace H := oB_ H
         obtain ⟨t762, A150, H⟩ := H
         have A15 := As_.mk A150
         clear A150
         replace H := oB_ H
         obtain ⟨t763, A160, H⟩ := H
         have A16 := As_.mk A160
         clear A160
         have HC17 := As_.mk H
         clear H
         go_upto_if 23 with (first | ((with_reducible refine gC_ (f := 15) rfl ?_); refine gL_ (some 22) Try.func15 #[.int .i64 x4_2] rfl ?_; (with_reducible refine (r3_Form.calls x4_2 t762 _ A15.out).mono ?_); rintro e w18 ⟨rfl, hb⟩; refine ⟨_, rfl, ?_⟩; replace BK757 := As_.mk (kB_ (rB_ BK757) hb); replace BK759 := As_.mk (kB_ (rB_ BK759) hb); replace HB := As_.mk (bT_ (by repeat (first | (with_reducible first | exact HB.out | apply bA_ | apply bN_ | apply b1_ | refine bS_ ?_ GE757.out | refine bS_ ?_ GE759.out) | exact HB.out)) hb)) | ((with_reducible refine gC_ (f := 17) rfl ?_); refine gL_ (some 23) Try.func17 #[.int .i64 t762] rfl ?_; (with_reducible refine (r3_HasA.calls t762 t763 _ A16.out).mono ?_); rintro e w' ⟨rfl, ⟨nd, rfl⟩⟩; refine ⟨_, rfl, ?_⟩))
         (try simp only [Act.put, List.setIfInBounds_toArray, List.set_cons_zero, List.set_cons_succ])
         go_cut [] (fun wc => ∃ (kq : Nat) (x760c_16 : Int), As_ (w15_SchedEnds.j3 kq x3_1 x4_2 l0_0 a0_1 a0_2 a0_3 a0_4 a0_5 a0_6 l0_7 l0_8 l0_9 l0_10 l0_11 x4_2 0 x760c_16 0 0 x760f_6 = some r) ∧ As_ (kq ≤ kj6) ∧ As_ (wc.heap[gb757]? = some (.cells #[(.slice A0_0 l0_0.length c0_0), .int .i64 a0_1, .int .i64 a0_2, .int .i64 a0_3, .int .i64 a0_4, .int .i64 a0_5, .string a0_6, (.slice A0_7 l0_7.length c0_7), (.slice A0_8 l0_8.length c0_8), (.slice A0_9 l0_9.length c0_9), (.slice A0_10 l0_10.length c0_10), (.slice A0_11 l0_11.length c0_11)] 67 (0, 0))) ∧ As_ (wc.heap[gb759]? = some (.cells #[.int .i64 x4_2, .int .i64 0, .int .i64 x760c_16, .int .i64 0, .int .i64 0, .string x760f_6] 24 (0, 0))) ∧ As_ (Below w.heap.size w wc))
         case first =>
          have H := HC17.out
          clear HC17
          by_cases c19 : t763 = true
          ·subst c19
           rw [if_pos rfl] at H
           have H' := As_.mk H
           clear H
           have hnb20 := NB757_759.out
           have hnc20 := NB759_757.out
           obtain ⟨hcz21_0, hcz21_1, hcz21_2, hcz21_3, hcz21_4, hcz21_5, hcz21_6, hcz21_7, hcz21_8, hcz21_9, hcz21_10, hcz21_11⟩ := cl12_ BK757.out
           obtain ⟨hfz21_0, hfz21_1, hfz21_2, hfz21_3, hfz21_4, hfz21_5, hfz21_6, hfz21_7, hfz21_8, hfz21_9, hfz21_10, hfz21_11⟩ := fz12_ BK757.out
           obtain ⟨hcz22_0, hcz22_1, hcz22_2, hcz22_3, hcz22_4, hcz22_5⟩ := cl6_ BK759.out
           obtain ⟨hfz22_0, hfz22_1, hfz22_2, hfz22_3, hfz22_4, hfz22_5⟩ := fz6_ BK759.out
           go_wp2
           go_meet
           case rel => exact ⟨_, ((l0_11.length : Int) % 2), H', ⟨by have := HK1.out; have := HK2.out; have := HJ6.out; first | omega | exact Nat.le_refl _⟩, ⟨by (with_reducible repeat (first | refine kN_ ?_ _ | refine kD_ ?_ | refine kA_ ?_ _)); refine blk_far ?_ NB757_759.out _; (with_reducible repeat (first | refine kN_ ?_ _ | refine kD_ ?_ | refine kA_ ?_ _)); exact BK757.out⟩, ⟨by (with_reducible repeat (first | refine kN_ ?_ _ | refine kD_ ?_ | refine kA_ ?_ _)); refine blk_put (cs := #[.int .i64 x4_2, .int .i64 0, .int .i64 0, .int .i64 0, .int .i64 0, .string x760f_6]) ?_ 2 _ rfl; (with_reducible repeat (first | refine kN_ ?_ _ | refine kD_ ?_ | refine kA_ ?_ _)); exact BK759.out⟩, ⟨by repeat (first | (with_reducible first | exact HB.out | apply bA_ | apply bN_ | apply b1_ | refine bS_ ?_ GE757.out | refine bS_ ?_ GE759.out) | exact HB.out)⟩⟩
          replace c19 := eF_ c19
          subst c19
          rw [if_neg Bool.false_ne_true] at H
          have H' := As_.mk H
          clear H
          go_wp2
          go_meet
          case rel => exact ⟨_, (0), H', ⟨by have := HK1.out; have := HK2.out; have := HJ6.out; first | omega | exact Nat.le_refl _⟩, ⟨rB_ BK757⟩, ⟨rB_ BK759⟩, ⟨by repeat (first | (with_reducible first | exact HB.out | apply bA_ | apply bN_ | apply b1_ | refine bS_ ?_ GE757.out | refine bS_ ?_ GE759.out) | exact HB.out)⟩⟩
         case rest =>
          clear HC17
          obtain ⟨kq, x760c_16, HA, HJ16, BK757, BK759, HB⟩ := hcut
          cases kq with
          | zero => exact absurd HA.out (by simp [w15_SchedEnds.j3])
          | succ kj16 =>
           have H := HA.out
           clear HA
           simp only [w15_SchedEnds.j3] at H
           have H' := As_.mk H
           clear H
           go_wp2
           go_loopg [6] kj16 (fun kq v6 w' => ∃ (x6_5 : Int), v6 = .int .i64 x6_5 ∧ As_ (w15_SchedEnds.l2 kq x3_1 x4_2 x6_5 l0_0 a0_1 a0_2 a0_3 a0_4 a0_5 a0_6 l0_7 l0_8 l0_9 l0_10 l0_11 x4_2 0 x760c_16 0 0 x760f_6 = some r) ∧ As_ (kq ≤ kj16) ∧ As_ (w'.heap[gb757]? = some (.cells #[(.slice A0_0 l0_0.length c0_0), .int .i64 a0_1, .int .i64 a0_2, .int .i64 a0_3, .int .i64 a0_4, .int .i64 a0_5, .string a0_6, (.slice A0_7 l0_7.length c0_7), (.slice A0_8 l0_8.length c0_8), (.slice A0_9 l0_9.length c0_9), (.slice A0_10 l0_10.length c0_10), (.slice A0_11 l0_11.length c0_11)] 67 (0, 0))) ∧ As_ (w'.heap[gb759]? = some (.cells #[.int .i64 x4_2, .int .i64 0, .int .i64 x760c_16, .int .i64 0, .int .i64 0, .string x760f_6] 24 (0, 0))) ∧ As_ (Below w.heap.size w w'))
           case atStart => exact ⟨(0), eQ_, H', ⟨Nat.le_refl _⟩, ⟨rB_ BK757⟩, ⟨rB_ BK759⟩, ⟨by repeat (first | (with_reducible first | exact HB.out | apply bA_ | apply bN_ | apply b1_ | refine bS_ ?_ GE757.out | refine bS_ ?_ GE759.out) | exact HB.out)⟩⟩
           case round =>
            clear H'
            obtain ⟨x6_5, rfl, HA, HK5, BK757, BK759, HB⟩ := hrel
            cases gk with
            | zero => exact absurd HA.out (by simp [w15_SchedEnds.l2])
            | succ k5 =>
             have H := HA.out
             clear HA
             simp only [w15_SchedEnds.l2] at H
             by_cases c23 : x6_5 < 4
             ·rw [if_pos c23] at H
              have c23b0 := decide_eq_true c23
              clear c23
              obtain ⟨y764, hy764⟩ : ∃ y_ : List Int, y_ = (([x3_1, 1] : List Int)) := ⟨_, rfl⟩
              replace H : ((w15_row.f k5 x6_5 (Int.tmod x6_5 2) y764).bind fun t767 => ((w15_placed.f k5 ([] : List ByteArray) t767 x4_2 0 x760c_16 0 0 x760f_6).bind fun t770 => (if t770 = true then (w15_SchedEnds.l2 k5 x3_1 x4_2 (wrap64 (x6_5 + 1)) l0_0 a0_1 a0_2 a0_3 a0_4 a0_5 a0_6 l0_7 l0_8 l0_9 l0_10 l0_11 x4_2 0 x760c_16 0 0 x760f_6) else (some false)))) = some r := by first | (rw [hy764]; with_reducible exact H) | (have H2_ := (Option.bind_some _ _).symm.trans H; rw [hy764]; with_reducible exact H2_) | (have H2_ := (Option.bind_some _ _).symm.trans H; with_reducible exact H2_) | with_reducible exact H | (rw [hy764]; exact H) | exact H
              have Ny764 := As_.mk hy764
              clear hy764
              replace H := oB_ H
              obtain ⟨t767, A240, H⟩ := H
              have A24 := As_.mk A240
              clear A240
              replace H := oB_ H
              obtain ⟨t770, A250, H⟩ := H
              have A25 := As_.mk A250
              clear A250
              by_cases c26 : t770 = true
              ·subst c26
               rw [if_pos rfl] at H
               have H' := As_.mk H
               clear H
               try go_wp2
               replace BK757 := As_.mk (kD_ BK757.out)
               replace BK759 := As_.mk (kD_ BK759.out)
               replace HB := As_.mk (b1_ HB.out)
               refine start_ (n := 10) (S := fun w' => w'.cell? ⟨gb759, 0, none⟩ = some (.int .i64 x4_2) ∧ w'.cell? ⟨gb759, 1, none⟩ = some (.int .i64 0) ∧ w'.cell? ⟨gb759, 2, none⟩ = some (.int .i64 x760c_16) ∧ w'.cell? ⟨gb759, 3, none⟩ = some (.int .i64 0) ∧ w'.cell? ⟨gb759, 4, none⟩ = some (.int .i64 0) ∧ w'.cell? ⟨gb759, 5, none⟩ = some (.string x760f_6)) (ds := []) #[false, false, false, false, false, false, false, false, false, false] (by kernel_rfl) rfl (by kernel_rfl) ⟨(bC_ BK759.out 0).trans rfl, (bC_ BK759.out 1).trans rfl, (bC_ BK759.out 2).trans rfl, (bC_ BK759.out 3).trans rfl, (bC_ BK759.out 4).trans rfl, (bC_ BK759.out 5).trans rfl⟩ (fun hHeld => ?_); refine with_tabW w15_SchedEnds.tab15 w15_SchedEnds.bits15 (fun HT_ HW_ => ?_)
               generalize wr.drew = w27 at BK757 BK759 HB hHeld ⊢
               refine seq_ (k := 5) [(0, some 33, false), (1, some 34, false), (2, some 35, false), (3, some 36, false), (6, some 39, true)] #[true, true, true, true, false, false, true, false, false, false] rfl (seq_of HT_.out HW_.out (by kernel_rfl)) (fun _ _ _ _ _ h => h) hHeld ?_
               repeat (first | (refine SeqOn.pure (v := ?_) (a' := ?_) rfl rfl (Or.inl ⟨by kernel_rfl, ?_⟩) ?_ ?_; rotate_left 2; (focus (intro w'; go_simp; with_reducible rfl)); (focus (first | (simp only [Act.put, List.setIfInBounds_toArray, List.set_cons_zero, List.set_cons_succ, i64_w, i32_w]; rfl) | rfl))) | (refine SeqOn.take (v := ?_) (a' := ?_) rfl rfl (Or.inl ⟨by kernel_rfl, ?_⟩) ?_ ?_; rotate_left 2; (focus (rintro w' ⟨s0, s1, s2, s3, s4, s5⟩; go_simp; with_reducible rfl)); (focus (first | (simp only [Act.put, List.setIfInBounds_toArray, List.set_cons_zero, List.set_cons_succ, i64_w, i32_w]; rfl) | rfl))))
               refine SeqOn.nil ?_
               refine one_ (i := 4) (N := some 37) #[true, true, true, true, true, false, true, false, false, false] rfl rfl (one_of HT_.out (by kernel_rfl)) (by decide) (fun K hK => ?_)
               refine Kd.R_lit_step (Kd.int .i64) _ 3 ?hg (N := 37) ?hd (xs := ([x3_1, 1] : List Int)) (inner := [.int .i64 x3_1, .int .i64 1]) (ok := fun _ => True) (okp := fun _ => True) ?hr ?hp (fun _ hk => hk) trivial (Below.refl _ _) (Nat.le_refl _) (by simp) ?_; (case hd => rfl); (case hg => rfl); (case hr => first | (go_simp; done) | (go_simp; rfl)); (case hp => exact (Reps.one (show Kd.M (Kd.int .i64) _ _ _ x3_1 [.int .i64 x3_1] from rfl) (Reps.one (show Kd.M (Kd.int .i64) _ _ _ 1 [.int .i64 1] from rfl) (Reps.none _ _))))
               intro v765 w28 ho29 hb hg_ hnew_
               clear hg_ hnew_
               (first | rw [← Ny764.out] at ho29 | (simp only [Int.reduceToNat] at ho29; rw [← Ny764.out] at ho29))
               replace HO766 := As_.mk (Kd.R_lower ho29 (bY_ (by repeat (first | (with_reducible first | exact HB.out | apply bA_ | apply bN_ | apply b1_ | refine bS_ ?_ GE757.out | refine bS_ ?_ GE759.out) | exact HB.out))))
               replace BK757 := As_.mk (kB_ (rB_ BK757) hb)
               replace BK759 := As_.mk (kB_ (rB_ BK759) hb)
               replace HB := As_.mk (bT_ (by repeat (first | (with_reducible first | exact HB.out | apply bA_ | apply bN_ | apply b1_ | refine bS_ ?_ GE757.out | refine bS_ ?_ GE759.out) | exact HB.out)) hb)
               clear hb ho29
               obtain ⟨Ao30, co30, eo30⟩ := Kd.R_slice HO766.out
               (first | subst eo30 | (injection eo30 with f1_ f2_ f3_; have f4_ := f1_.symm; have f5_ := f3_.symm; clear f1_ f2_ f3_; subst f4_; subst f5_))
               refine hK.out _ _ ⟨(bC_ BK759.out 0).trans rfl, (bC_ BK759.out 1).trans rfl, (bC_ BK759.out 2).trans rfl, (bC_ BK759.out 3).trans rfl, (bC_ BK759.out 4).trans rfl, (bC_ BK759.out 5).trans rfl⟩ (fun hHeld => ?_)
               clear hK K
               refine norm_ (a' := ?_) ?_ ?_
               rotate_left
               ·show Act.put _ (some 37) _ = _
                simp only [Act.put, List.setIfInBounds_toArray, List.set_cons_zero, List.set_cons_succ, i64_w, i32_w]
                rfl
               refine one_ (i := 5) (N := some 38) #[true, true, true, true, true, true, true, false, false, false] rfl rfl (one_of HT_.out (by kernel_rfl)) (by decide) (fun K hK => ?_)
               refine goes_ Try.func45 (by kernel_rfl) rfl #[.int .i64 x6_5, .int .i64 (Int.tmod x6_5 2), .slice Ao30 y764.length co30] (by rfl) rfl rfl (by (try simp only [List.map_toArray, List.map_cons, List.map_nil]); first | done | rfl) ?_
               with_reducible refine (w15_row.calls k5 x6_5 (Int.tmod x6_5 2) _ _ y764 t767 _ ?side1 ?side2 A24.out).mono ?_
               (case side1 => exact rC_ (Kd.R_reads' HO766.out).2.2)
               (case side2 => exact (Kd.R_reads' HO766.out).2.1)
               rintro e w31 ⟨v768, rfl, ho0, hb⟩
               refine ⟨_, rfl, ?_⟩
               replace HO766 := As_.mk (Kd.R_below (rR_ HO766) hb)
               replace HO769 := As_.mk (Kd.R_lower (Kd.R_newB ho0 (g := gb759) (o := .cells #[.int .i64 x4_2, .int .i64 0, .int .i64 x760c_16, .int .i64 0, .int .i64 0, .string x760f_6] 24 (0, 0)) (rB_ BK759)) (bY_ (by repeat (first | (with_reducible first | exact HB.out | apply bA_ | apply bN_ | apply b1_ | refine bS_ ?_ GE757.out | refine bS_ ?_ GE759.out) | exact HB.out))))
               replace BK757 := As_.mk (kB_ (rB_ BK757) hb)
               replace BK759 := As_.mk (kB_ (rB_ BK759) hb)
               replace HB := As_.mk (bT_ (by repeat (first | (with_reducible first | exact HB.out | apply bA_ | apply bN_ | apply b1_ | refine bS_ ?_ GE757.out | refine bS_ ?_ GE759.out) | exact HB.out)) hb)
               obtain ⟨Ao32, co32, eo32⟩ := Kd.R_slice HO769.out
               (first | subst eo32 | (injection eo32 with f1_ f2_ f3_; have f4_ := f1_.symm; have f5_ := f3_.symm; clear f1_ f2_ f3_; subst f4_; subst f5_))
               refine hK.out _ _ ⟨(bC_ BK759.out 0).trans rfl, (bC_ BK759.out 1).trans rfl, (bC_ BK759.out 2).trans rfl, (bC_ BK759.out 3).trans rfl, (bC_ BK759.out 4).trans rfl, (bC_ BK759.out 5).trans rfl⟩ (fun hHeld => ?_)
               clear hK K
               refine norm_ (a' := ?_) ?_ ?_
               rotate_left
               ·show Act.put _ (some 38) _ = _
                simp only [Act.put, List.setIfInBounds_toArray, List.set_cons_zero, List.set_cons_succ, i64_w, i32_w]
                rfl
               refine pure_ (i := 7) (N := some 40) (v := ?_) (a' := ?_) #[true, true, true, true, true, true, true, true, false, false] rfl rfl (any_of HT_.out (by kernel_rfl)) (fun _ _ _ h => h) (Or.inl ⟨by rfl, ?_⟩) ?_ ?_
               rotate_left
               ·intro w'
                go_simp
                with_reducible rfl
               rotate_left
               ·simp only [Act.put, List.setIfInBounds_toArray, List.set_cons_zero, List.set_cons_succ, i64_w, i32_w]
                rfl
               refine one_ (i := 8) (N := some 41) #[true, true, true, true, true, true, true, true, true, false] rfl rfl (one_of HT_.out (by kernel_rfl)) (by decide) (fun K hK => ?_)
               refine goes_ Try.func44 (by kernel_rfl) rfl #[.agg #[.slice none 0 0, .slice Ao32 t767.length co32, .int .i64 x4_2, .int .i64 0, .int .i64 x760c_16, .int .i64 0, .int .i64 0, .string x760f_6]] (by rfl) rfl rfl (by (try simp only [List.map_toArray, List.map_cons, List.map_nil]); first | done | rfl) ?_
               refine (w15_placed.calls k5 _ _ ([] : List ByteArray) _ _ t767 x4_2 0 x760c_16 0 0 x760f_6 true _ ?side1 ?side2 ?side3 ?side4 A25.out).mono ?_
               (case side1 => exact Kd.C_nil _ _)
               (case side2 => exact Nat.le_refl _)
               (case side3 => exact rC_ (Kd.R_reads' HO769.out).2.2)
               (case side4 => exact (Kd.R_reads' HO769.out).2.1)
               rintro e w33 ⟨rfl, hb⟩
               refine ⟨_, rfl, ?_⟩
               replace HO766 := As_.mk (Kd.R_below (rR_ HO766) hb)
               replace HO769 := As_.mk (Kd.R_below (rR_ HO769) hb)
               replace BK757 := As_.mk (kB_ (rB_ BK757) hb)
               replace BK759 := As_.mk (kB_ (rB_ BK759) hb)
               replace HB := As_.mk (bT_ (by repeat (first | (with_reducible first | exact HB.out | apply bA_ | apply bN_ | apply b1_ | refine bS_ ?_ GE757.out | refine bS_ ?_ GE759.out) | exact HB.out)) hb)
               refine hK.out _ _ ⟨(bC_ BK759.out 0).trans rfl, (bC_ BK759.out 1).trans rfl, (bC_ BK759.out 2).trans rfl, (bC_ BK759.out 3).trans rfl, (bC_ BK759.out 4).trans rfl, (bC_ BK759.out 5).trans rfl⟩ (fun hHeld => ?_)
               clear hK K
               refine norm_ (a' := ?_) ?_ ?_
               rotate_left
               ·show Act.put _ (some 41) _ = _
                simp only [Act.put, List.setIfInBounds_toArray, List.set_cons_zero, List.set_cons_succ, i64_w, i32_w]
                rfl
               refine pure_ (i := 9) (N := some 42) (v := ?_) (a' := ?_) #[true, true, true, true, true, true, true, true, true, true] rfl rfl (any_of HT_.out (by kernel_rfl)) (fun _ _ _ h => h) (Or.inl ⟨by rfl, ?_⟩) ?_ ?_
               rotate_left
               ·intro w'
                go_simp
                with_reducible rfl
               rotate_left
               ·simp only [Act.put, List.setIfInBounds_toArray, List.set_cons_zero, List.set_cons_succ, i64_w, i32_w]
                rfl
               refine done_ (done_of HT_.out (by kernel_rfl)) ?_
               try go_wp2
               go_roundg k5
               case measure => have := HK1.out; have := HK2.out; have := HJ6.out; have := HJ16.out; have := HK5.out; omega
               case rel => exact ⟨(wrap64 (x6_5 + 1)), eQ_, H', ⟨by have := HK1.out; have := HK2.out; have := HJ6.out; have := HJ16.out; have := HK5.out; omega⟩, ⟨rB_ BK757⟩, ⟨rB_ BK759⟩, ⟨by repeat (first | (with_reducible first | exact HB.out | apply bA_ | apply bN_ | apply b1_ | refine bS_ ?_ GE757.out | refine bS_ ?_ GE759.out) | exact HB.out)⟩⟩
              exact absurd (placed_true A25.out) c26
             rw [if_neg c23] at H
             have c23b0 := decide_eq_false c23
             clear c23
             have H' := As_.mk H
             clear H
             go_wp2
             go_roundg k5
             case measure => have := HK1.out; have := HK2.out; have := HJ6.out; have := HJ16.out; have := HK5.out; omega
             case rel => exact ⟨(wrap64 (x4_2 + 1)), eQ_, H', ⟨by have := HK1.out; have := HK2.out; have := HJ6.out; have := HJ16.out; have := HK5.out; omega⟩, ⟨rB_ BK757⟩, ⟨by repeat (first | (with_reducible first | exact HB.out | apply bA_ | apply bN_ | apply b1_ | refine bS_ ?_ GE757.out | refine bS_ ?_ GE759.out) | exact HB.out)⟩⟩
      rw [if_neg c4] at H
      have c4b0 := decide_eq_false c4
      clear c4
      have H' := As_.mk H
      clear H
      go_wp2
      go_roundg k2
      case measure => have := HK1.out; have := HK2.out; omega
      case rel => exact ⟨(wrap64 (x3_1 + 1)), eQ_, H', ⟨by have := HK1.out; have := HK2.out; omega⟩, ⟨rB_ BK757⟩, ⟨bs_ HB GE757⟩⟩
   rw [if_neg c3] at H
   have c3b0 := decide_eq_false c3
   clear c3
   replace H := oB_ H
   obtain ⟨t758, A410, H⟩ := H
   have A41 := As_.mk A410
   clear A410
   obtain rfl := oI_ H
   go_wp2_with (first | ((with_reducible refine gC_ (f := 46) rfl ?_); refine gL_ (some 43) Try.func46 #[] rfl ?_; (with_reducible refine (w15_wakes.calls k1  t758 _ A41.out).mono ?_); rintro e w42 ⟨rfl, hb⟩; refine ⟨_, rfl, ?_⟩; replace BK757 := As_.mk (kB_ (rB_ BK757) hb); replace HB := As_.mk (bT_ (bs_ HB GE757) hb)))
   go_ret
   exact ⟨by first | rfl | (simp [eN_, eS_] <;> rfl) | (simp [*, eN_, eS_] <;> rfl), bs_ HB GE757⟩
end Go.Proofs.Ytibfkkjkahpobaa.PDag
end
section
namespace Go.Proofs.Ytibfkkjkahpobaa.PDag
set_option maxRecDepth 100000
def endI (e c : Int) : S24 := if e = 28 then ⟨28, 0, 0, 0, 0, ⟨#[97]⟩⟩ else if e = 29 then ⟨29, 0, c, 0, 0, ⟨#[97]⟩⟩ else if e = 30 then ⟨30, 0, c, 0, 0, ⟨#[97]⟩⟩ else if e = 31 then ⟨31, 0, 0, 0, 0, ⟨#[97]⟩⟩ else ⟨e, 0, 0, 0, 0, ⟨#[]⟩⟩
def okEnd (op : Int) (n : Nat) (c : Int) : Bool :=
  match w15_row.f 200 (n : Int) (Int.tmod (n : Int) 2) [op, 1] with
  | some r => mayBlk r (endI 28 c) && (mayBlk r (endI 29 c) && (mayBlk r (endI 30 c) && (mayBlk r (endI 31 c) && (mayBlk r (endI 32 c) && mayBlk r (endI 33 c)))))
  | none => false
def okOp (op : Int) : Bool := (okEnd op 0 0 && okEnd op 0 1) && ((okEnd op 1 0 && okEnd op 1 1) && ((okEnd op 2 0 && okEnd op 2 1) && (okEnd op 3 0 && okEnd op 3 1)))
def okOps : Nat → Bool
  | 0 => true
  | n + 1 => okOps n && okOp ((n : Int) + 1)
theorem okOps_at : ∀ (m n : Nat), okOps m = true → n < m → okOp ((n : Int) + 1) = true
  | m + 1, n, h, hn => by
    rw [okOps, Bool.and_eq_true] at h
    by_cases e : n = m
    · subst e; exact h.2
    · exact okOps_at m n h.1 (by omega)
theorem ok_ends : okOps 27 = true := by kernel_rfl
theorem ok_end (op : Nat) (h0 : 1 ≤ op) (h1 : op < 28) (n : Nat) (hn : n < 4) (c : Int) (hc : c = 0 ∨ c = 1) : okEnd (op : Int) n c = true := by
  have h := okOps_at 27 (op - 1) ok_ends (by omega)
  rw [show ((op - 1 : Nat) : Int) + 1 = (op : Int) by omega] at h
  unfold okOp at h
  simp only [Bool.and_eq_true] at h
  have : n = 0 ∨ n = 1 ∨ n = 2 ∨ n = 3 := by omega
  rcases this with rfl | rfl | rfl | rfl <;> rcases hc with rfl | rfl
  · exact h.1.1
  · exact h.1.2
  · exact h.2.1.1
  · exact h.2.1.2
  · exact h.2.2.1.1
  · exact h.2.2.1.2
  · exact h.2.2.2.1
  · exact h.2.2.2.2
section
variable (lI : List S24) (a b c d e : Int) (s : ByteArray) (lN : List Int) (lS : List ByteArray) (lU : List S140) (lB : List S73) (lC : List S81)
abbrev l2E (k : Nat) (op e' n : Int) (x : S24) : Option Bool := w15_SchedEnds.l2 k op e' n lI a b c d e s lN lS lU lB lC x.f0 x.f1 x.f2 x.f3 x.f4 x.f5
theorem end_go (op : Int) (m : Nat) (e' fm : Int) (tg ha : Bool) (he : e' ≤ 33) (hf : r3_Form.f e' = some fm) (ht : r3_Target.f fm = some tg) (hA : r3_HasA.f fm = some ha)
    (h2 : l2E lI a b c d e s lN lS lU lB lC m op e' 0 ⟨e', 0, if ha = true then (lC.length : Int) % 2 else 0, 0, 0, if tg = true then ⟨#[97]⟩ else ⟨#[]⟩⟩ = some true) :
    w15_SchedEnds.l1 (m + 3) op e' lI a b c d e s lN lS lU lB lC = some true := by
  rw [w15_SchedEnds.l1, if_pos he, hf, Option.bind_some, ht, Option.bind_some]
  cases tg with
  | true =>
    rw [if_pos rfl, w15_SchedEnds.j2, hf, Option.bind_some, hA, Option.bind_some]
    cases ha with
    | true => rw [if_pos rfl, w15_SchedEnds.j3]; exact h2
    | false => rw [if_neg (by decide), w15_SchedEnds.j3]; exact h2
  | false =>
    rw [if_neg (by decide), w15_SchedEnds.j2, hf, Option.bind_some, hA, Option.bind_some]
    cases ha with
    | true => rw [if_pos rfl, w15_SchedEnds.j3]; exact h2
    | false => rw [if_neg (by decide), w15_SchedEnds.j3]; exact h2
theorem end_l1 (op : Int) (m : Nat) (e' : Int) (h : e' = 28 ∨ e' = 29 ∨ e' = 30 ∨ e' = 31 ∨ e' = 32 ∨ e' = 33) (h2 : l2E lI a b c d e s lN lS lU lB lC m op e' 0 (endI e' ((lC.length : Int) % 2)) = some true) :
    w15_SchedEnds.l1 (m + 3) op e' lI a b c d e s lN lS lU lB lC = some true := by
  rcases h with rfl | rfl | rfl | rfl | rfl | rfl
  · exact end_go lI a b c d e s lN lS lU lB lC op m 28 8 true false (by decide) (by kernel_rfl) (by kernel_rfl) (by kernel_rfl) h2
  · exact end_go lI a b c d e s lN lS lU lB lC op m 29 9 true true (by decide) (by kernel_rfl) (by kernel_rfl) (by kernel_rfl) h2
  · exact end_go lI a b c d e s lN lS lU lB lC op m 30 9 true true (by decide) (by kernel_rfl) (by kernel_rfl) (by kernel_rfl) h2
  · exact end_go lI a b c d e s lN lS lU lB lC op m 31 8 true false (by decide) (by kernel_rfl) (by kernel_rfl) (by kernel_rfl) h2
  · exact end_go lI a b c d e s lN lS lU lB lC op m 32 0 false false (by decide) (by kernel_rfl) (by kernel_rfl) (by kernel_rfl) h2
  · exact end_go lI a b c d e s lN lS lU lB lC op m 33 0 false false (by decide) (by kernel_rfl) (by kernel_rfl) (by kernel_rfl) h2
theorem l2_round (op : Int) (m n : Nat) (e' : Int) (x : S24) (r : List S24) (hn : n < 4) (h1 : w15_row.f m (n : Int) (Int.tmod (n : Int) 2) [op, 1] = some r) (h2 : w15_placed.f m [] r x.f0 x.f1 x.f2 x.f3 x.f4 x.f5 = some true) (h3 : l2E lI a b c d e s lN lS lU lB lC m op e' ((n + 1 : Nat) : Int) x = some true) :
    l2E lI a b c d e s lN lS lU lB lC (m + 1) op e' (n : Int) x = some true := by
  have hw : wrap64 ((n : Int) + 1) = ((n + 1 : Nat) : Int) := wrap_at (by omega)
  unfold l2E at h3 ⊢
  rw [w15_SchedEnds.l2, if_pos (by omega), h1, Option.bind_some, h2, Option.bind_some, if_pos rfl, hw, h3]
theorem l2_last (op : Int) (m : Nat) (e' : Int) (x : S24) (he : 0 ≤ e' ∧ e' ≤ 100) (h3 : w15_SchedEnds.l1 m op (e' + 1) lI a b c d e s lN lS lU lB lC = some true) : l2E lI a b c d e s lN lS lU lB lC (m + 1) op e' ((4 : Nat) : Int) x = some true := by
  have hw : wrap64 (e' + 1) = e' + 1 := by unfold wrap64; omega
  unfold l2E
  rw [w15_SchedEnds.l2, if_neg (by decide), hw, h3]
theorem l2_ev (op : Nat) (h0 : 1 ≤ op) (h1 : op < 28) (e' : Int) (he : e' = 28 ∨ e' = 29 ∨ e' = 30 ∨ e' = 31 ∨ e' = 32 ∨ e' = 33) (next : Ev (fun k => w15_SchedEnds.l1 k (op : Int) (e' + 1) lI a b c d e s lN lS lU lB lC) true) :
    ∀ (f n : Nat), n + f = 4 → Ev (fun k => l2E lI a b c d e s lN lS lU lB lC k (op : Int) e' (n : Int) (endI e' ((lC.length : Int) % 2))) true
  | 0, n, hn => by
    obtain rfl : n = 4 := by omega
    obtain ⟨K, hK⟩ := next
    refine ⟨K + 1, fun k hk => ?_⟩
    obtain ⟨m, rfl⟩ : ∃ m, k = m + 1 := ⟨k - 1, by omega⟩
    exact l2_last lI a b c d e s lN lS lU lB lC op m e' _ (by omega) (hK m (by omega))
  | f + 1, n, hn => by
    obtain ⟨K3, h3⟩ := l2_ev op h0 h1 e' he next f (n + 1) (by omega)
    have hk := ok_end op h0 h1 n (by omega) ((lC.length : Int) % 2) (by omega)
    unfold okEnd at hk
    cases hr : w15_row.f 200 (n : Int) (Int.tmod (n : Int) 2) [(op : Int), 1] with
    | none => rw [hr] at hk; exact absurd hk (by simp)
    | some r =>
      rw [hr] at hk
      simp only [Bool.and_eq_true] at hk
      have hm : mayBlk r (endI e' ((lC.length : Int) % 2)) = true := by
        rcases he with rfl | rfl | rfl | rfl | rfl | rfl
        · exact hk.1
        · exact hk.2.1
        · exact hk.2.2.1
        · exact hk.2.2.2.1
        · exact hk.2.2.2.2.1
        · exact hk.2.2.2.2.2
      obtain ⟨K1, h1⟩ := Ev.of (w15_row.mono (n : Int) (Int.tmod (n : Int) 2) [(op : Int), 1]) hr
      obtain ⟨K2, h2⟩ := placed_ev r _ hm
      refine ⟨K1 + K2 + K3 + 1, fun k hk => ?_⟩
      obtain ⟨m, rfl⟩ : ∃ m, k = m + 1 := ⟨k - 1, by omega⟩
      exact l2_round lI a b c d e s lN lS lU lB lC op m n e' _ r (by omega) (h1 m (by omega)) (h2 m (by omega)) (h3 m (by omega))
theorem l1_last (op : Nat) (m : Nat) (hop : op < 28) (h : w15_SchedEnds.l0 m ((op + 1 : Nat) : Int) lI a b c d e s lN lS lU lB lC = some true) : w15_SchedEnds.l1 (m + 1) (op : Int) 34 lI a b c d e s lN lS lU lB lC = some true := by
  have hw : wrap64 ((op : Int) + 1) = ((op + 1 : Nat) : Int) := wrap_at (by omega)
  rw [w15_SchedEnds.l1, if_neg (by decide), hw, h]
theorem l1_ev (op : Nat) (h0 : 1 ≤ op) (h1 : op < 28) (next : Ev (fun k => w15_SchedEnds.l0 k ((op + 1 : Nat) : Int) lI a b c d e s lN lS lU lB lC) true) : ∀ (f n : Nat), n + f = 34 → 28 ≤ n → Ev (fun k => w15_SchedEnds.l1 k (op : Int) (n : Int) lI a b c d e s lN lS lU lB lC) true
  | 0, n, hn, hl => by
    obtain rfl : n = 34 := by omega
    obtain ⟨K, hK⟩ := next
    refine ⟨K + 1, fun k hk => ?_⟩
    obtain ⟨m, rfl⟩ : ∃ m, k = m + 1 := ⟨k - 1, by omega⟩
    exact l1_last lI a b c d e s lN lS lU lB lC op m h1 (hK m (by omega))
  | f + 1, n, hn, hl => by
    have ih := l1_ev op h0 h1 next f (n + 1) (by omega) (by omega)
    have he : (n : Int) = 28 ∨ (n : Int) = 29 ∨ (n : Int) = 30 ∨ (n : Int) = 31 ∨ (n : Int) = 32 ∨ (n : Int) = 33 := by omega
    obtain ⟨K, hK⟩ := l2_ev lI a b c d e s lN lS lU lB lC op h0 h1 (n : Int) he ih 4 0 (by omega)
    refine ⟨K + 3, fun k hk => ?_⟩
    obtain ⟨m, rfl⟩ : ∃ m, k = m + 3 := ⟨k - 3, by omega⟩
    exact end_l1 lI a b c d e s lN lS lU lB lC (op : Int) m (n : Int) he (hK m (by omega))
theorem l0_round (op m : Nat) (h1 : op < 28) (h : w15_SchedEnds.l1 m (op : Int) ((28 : Nat) : Int) lI a b c d e s lN lS lU lB lC = some true) : w15_SchedEnds.l0 (m + 1) (op : Int) lI a b c d e s lN lS lU lB lC = some true := by
  rw [w15_SchedEnds.l0, if_pos (by omega)]
  exact h
theorem l0_last (m : Nat) (h : w15_wakes.f m = some true) : w15_SchedEnds.l0 (m + 1) ((28 : Nat) : Int) lI a b c d e s lN lS lU lB lC = some true := by
  rw [w15_SchedEnds.l0, if_neg (by decide), h, Option.bind_some]
theorem l0_ev : ∀ (f op : Nat), op + f = 28 → 1 ≤ op → Ev (fun k => w15_SchedEnds.l0 k (op : Int) lI a b c d e s lN lS lU lB lC) true
  | 0, op, ho, h0 => by
    obtain rfl : op = 28 := by omega
    obtain ⟨K, hK⟩ := wakes_ev
    refine ⟨K + 1, fun k hk => ?_⟩
    obtain ⟨m, rfl⟩ : ∃ m, k = m + 1 := ⟨k - 1, by omega⟩
    exact l0_last lI a b c d e s lN lS lU lB lC m (hK m (by omega))
  | f + 1, op, ho, h0 => by
    obtain ⟨K, hK⟩ := l1_ev lI a b c d e s lN lS lU lB lC op h0 (by omega) (l0_ev f (op + 1) (by omega) (by omega)) 6 28 (by omega) (by omega)
    refine ⟨K + 1, fun k hk => ?_⟩
    obtain ⟨m, rfl⟩ : ∃ m, k = m + 1 := ⟨k - 1, by omega⟩
    exact l0_round lI a b c d e s lN lS lU lB lC op m (by omega) (hK m (by omega))
end
theorem ends_walk : S15.LawWalk 11 := by
  intro A0 c0 lI x A1 c1 lN A2 c2 lS A3 c3 lU A4 c4 lB A5 c5 lC w g0 b0 g1 b1 g2 b2 g3 b3 g4 b4 g5 b5 hin
  obtain ⟨K, hK⟩ := (l0_ev lI x.f0 x.f1 x.f2 x.f3 x.f4 x.f5 lN lS lU lB lC 27 1 (by omega) (by omega)).rounds
  exact w15_SchedEnds.calls K A0 c0 lI x.f0 x.f1 x.f2 x.f3 x.f4 x.f5 A1 c1 lN A2 c2 lS A3 c3 lU A4 c4 lB A5 c5 lC true w g0 b0 g1 b1 g2 b2 g3 b3 g4 b4 g5 b5 hK
end Go.Proofs.Ytibfkkjkahpobaa.PDag
end
