-- the texts that this claim needs, out of this session's and its print's (wip/shrink.py)
import Derived.Test.YtibfkkjkahpobaaPDagx0L
import Derived.Test.YtibfkkjkahpobaaPDagx10L
import Derived.Test.YtibfkkjkahpobaaPDagx13L
import Derived.Test.YtibfkkjkahpobaaPDagx14L
import Derived.Test.YtibfkkjkahpobaaPDagx16L
import Derived.Test.YtibfkkjkahpobaaPDagx18L
import Derived.Test.YtibfkkjkahpobaaPDagx19L
import Derived.Test.YtibfkkjkahpobaaPDagx23L
import Derived.Test.YtibfkkjkahpobaaPDagx25L
import Derived.Test.YtibfkkjkahpobaaPDagx26L
namespace Go.Proofs.Ytibfkkjkahpobaa.PDag
open Go.RowKit Go.Proofs.YtibfkkjkahpobaaW.PrintWords Go.Proofs.YtibfkkjkahpobaaW.PrintLast Go.Proofs.YtibfkkjkahpobaaW.PrintMore
attribute [local go_sem] max2_int min2_int max_two min_two max_three min_three max_four min_four   -- for this text's walks alone
set_option linter.unusedVariables false
set_option linter.unusedSimpArgs false
mutual
def w14_DagLast.l0 : Nat → List (List (S24)) → List (S24) → Int → List (S24) → Int → Int → Int → Int → Int → ByteArray → List Int → Option (Bool)
  | 0, _, _, _, _, _, _, _, _, _, _, _ => none
  | k + 1, x3, x4, x5, x578a, x578b, x578c, x578d, x578e, x578f, x578g, x578h => if x5 < (x3.length : Int) then (if 0 ≤ x5 then (if 0 ≤ ((rd_L5 x3 x5).length : Int) then (if (((rd_L5 x3 x5).length : Int) : Int).toNat ≤ 35184372088832 then (w14_DagLast.l1 k x3 x4 x5 (List.replicate (((rd_L5 x3 x5).length : Int) : Int).toNat 0) 0 x578a x578b x578c x578d x578e x578f x578g x578h) else (none)) else (none)) else (none)) else ((w14_wakes.f k).bind fun t585 => (some t585))
def w14_DagLast.j2 : Nat → List (List (S24)) → List (S24) → Int → List Int → List (S24) → Int → Int → Int → Int → Int → ByteArray → List Int → Option (Bool)
  | 0, _, _, _, _, _, _, _, _, _, _, _, _ => none
  | k + 1, x3, x4, x5, x6, x578a, x578b, x578c, x578d, x578e, x578f, x578g, x578h => w14_DagLast.l2 k x3 x4 x5 x6 0 x578a x578b x578c x578d x578e x578f x578g x578h
def w14_DagLast.l2 : Nat → List (List (S24)) → List (S24) → Int → List Int → Int → List (S24) → Int → Int → Int → Int → Int → ByteArray → List Int → Option (Bool)
  | 0, _, _, _, _, _, _, _, _, _, _, _, _, _ => none
  | k + 1, x3, x4, x5, x6, x8, x578a, x578b, x578c, x578d, x578e, x578f, x578g, x578h => if x8 < (x4.length : Int) then ((r0_CopyNumbers.f k x6).bind fun t592 => (if 0 ≤ x5 then (if x5 < (x3.length : Int) then (if 0 ≤ x8 then ((dag_Last.f k (rd_L5 x3 x5) ((q24 x4 x8).f0) ((q24 x4 x8).f1) ((q24 x4 x8).f2) ((q24 x4 x8).f3) ((q24 x4 x8).f4) ((q24 x4 x8).f5) t592).bind fun bt597 => ((r13_Straight.f k (rd_L5 x3 x5)).bind fun t600 => (if t600 = true then ((r3_Ins.f k ((q24 x4 x8).f0) ((q24 x4 x8).f1) ((q24 x4 x8).f2) ((q24 x4 x8).f3) ((q24 x4 x8).f4) ((q24 x4 x8).f5)).bind fun t602 => (if t602 = true then ((r3_Ends.f ((q24 x4 x8).f0)).bind fun t604 => (if t604 = true then (w14_DagLast.j4 k x3 x4 x5 x6 x8 t592 bt597.1 bt597.2 true x578a x578b x578c x578d x578e x578f x578g x578h) else (w14_DagLast.j4 k x3 x4 x5 x6 x8 t592 bt597.1 bt597.2 (((q24 x4 x8).f0) == 0) x578a x578b x578c x578d x578e x578f x578g x578h))) else (w14_DagLast.j4 k x3 x4 x5 x6 x8 t592 bt597.1 bt597.2 false x578a x578b x578c x578d x578e x578f x578g x578h))) else (w14_DagLast.j4 k x3 x4 x5 x6 x8 t592 bt597.1 bt597.2 false x578a x578b x578c x578d x578e x578f x578g x578h)))) else (none)) else (none)) else (none))) else (if 0 ≤ x5 then (if x5 < (x3.length : Int) then ((r0_CopyNumbers.f k x6).bind fun t614 => ((some (([0] : List Int) : List Int)).bind fun y617 => (if t614.length + y617.length < 17592186044416 then ((dag_Last.f k (rd_L5 x3 x5) 0 0 0 0 0 (⟨#[]⟩ : ByteArray) (t614 ++ y617)).bind fun bt623 => ((w14_num.f bt623.2).bind fun t625 => (if t625 = 1 then (w14_DagLast.l0 k x3 x4 (wrap64 (x5 + 1)) x578a x578b x578c x578d x578e x578f x578g x578h) else (some false)))) else (none)))) else (none)) else (none))
def w14_DagLast.j4 : Nat → List (List (S24)) → List (S24) → Int → List Int → Int → List Int → Int → Int → Bool → List (S24) → Int → Int → Int → Int → Int → ByteArray → List Int → Option (Bool)
  | 0, _, _, _, _, _, _, _, _, _, _, _, _, _, _, _, _, _ => none
  | k + 1, x3, x4, x5, x6, x8, x9, x10, x11, x12, x578a, x578b, x578c, x578d, x578e, x578f, x578g, x578h => w14_DagLast.l3 k x3 x4 x5 x6 x8 x9 x10 x11 x12 0 x578a x578b x578c x578d x578e x578f x578g x578h
def w14_DagLast.l3 : Nat → List (List (S24)) → List (S24) → Int → List Int → Int → List Int → Int → Int → Bool → Int → List (S24) → Int → Int → Int → Int → Int → ByteArray → List Int → Option (Bool)
  | 0, _, _, _, _, _, _, _, _, _, _, _, _, _, _, _, _, _, _ => none
  | k + 1, x3, x4, x5, x6, x8, x9, x10, x11, x12, x13, x578a, x578b, x578c, x578d, x578e, x578f, x578g, x578h => if x13 < (x6.length : Int) then (if x12 = true then (if 0 ≤ x13 then ((r0_Num.f (rd x6 x13) 800).bind fun t607 => (w14_DagLast.l3 k x3 x4 x5 x6 x8 x9 x10 x11 t607 (wrap64 (x13 + 1)) x578a x578b x578c x578d x578e x578f x578g x578h)) else (none)) else (w14_DagLast.l3 k x3 x4 x5 x6 x8 x9 x10 x11 false (wrap64 (x13 + 1)) x578a x578b x578c x578d x578e x578f x578g x578h)) else (if x12 = true then (if 0 ≤ x5 then (if x5 < (x3.length : Int) then (if 0 ≤ x8 then (if x8 < (x4.length : Int) then ((r13_Last.f k (rd_L5 x3 x5) ((q24 x4 x8).f0) ((q24 x4 x8).f1) ((q24 x4 x8).f2) ((q24 x4 x8).f3) ((q24 x4 x8).f4) ((q24 x4 x8).f5) x6).bind fun t610 => (w14_DagLast.j6 k x3 x4 x5 x6 x8 x9 x10 x11 0 t610 x578a x578b x578c x578d x578e x578f x578g x578h)) else (none)) else (none)) else (none)) else (none)) else (w14_DagLast.j6 k x3 x4 x5 x6 x8 x9 x10 x11 1 0 x578a x578b x578c x578d x578e x578f x578g x578h))
def w14_DagLast.j6 : Nat → List (List (S24)) → List (S24) → Int → List Int → Int → List Int → Int → Int → Int → Int → List (S24) → Int → Int → Int → Int → Int → ByteArray → List Int → Option (Bool)
  | 0, _, _, _, _, _, _, _, _, _, _, _, _, _, _, _, _, _, _ => none
  | k + 1, x3, x4, x5, x6, x8, x9, x10, x11, x14, x15, x578a, x578b, x578c, x578d, x578e, x578f, x578g, x578h => (w14_num.f x11).bind fun t611 => (if t611 = x14 then (if x10 = x15 then ((r0_EqNumbers.f k x9 x6).bind fun t612 => (w14_DagLast.j7 k x3 x4 x5 x6 x8 (!t612) x578a x578b x578c x578d x578e x578f x578g x578h)) else (w14_DagLast.j7 k x3 x4 x5 x6 x8 true x578a x578b x578c x578d x578e x578f x578g x578h)) else (w14_DagLast.j7 k x3 x4 x5 x6 x8 true x578a x578b x578c x578d x578e x578f x578g x578h))
def w14_DagLast.j7 : Nat → List (List (S24)) → List (S24) → Int → List Int → Int → Bool → List (S24) → Int → Int → Int → Int → Int → ByteArray → List Int → Option (Bool)
  | 0, _, _, _, _, _, _, _, _, _, _, _, _, _, _ => none
  | k + 1, x3, x4, x5, x6, x8, x155, x578a, x578b, x578c, x578d, x578e, x578f, x578g, x578h => if x155 = true then (some false) else (w14_DagLast.l2 k x3 x4 x5 x6 (wrap64 (x8 + 1)) x578a x578b x578c x578d x578e x578f x578g x578h)
def w14_DagLast.l1 : Nat → List (List (S24)) → List (S24) → Int → List Int → Int → List (S24) → Int → Int → Int → Int → Int → ByteArray → List Int → Option (Bool)
  | 0, _, _, _, _, _, _, _, _, _, _, _, _, _ => none
  | k + 1, x3, x4, x5, x6, x7, x578a, x578b, x578c, x578d, x578e, x578f, x578g, x578h => if x7 < (x6.length : Int) then (if (x578h.length : Int) > 0 then (if (x578h.length : Int) = 0 then (none) else (if 0 ≤ (Int.tmod x7 (x578h.length : Int)) then (if (Int.tmod x7 (x578h.length : Int)) < (x578h.length : Int) then (if 0 ≤ x7 then (w14_DagLast.l1 k x3 x4 x5 (x6.set (x7 : Int).toNat (rd x578h (Int.tmod x7 (x578h.length : Int)))) (wrap64 (x7 + 1)) x578a x578b x578c x578d x578e x578f x578g x578h) else (none)) else (none)) else (none))) else (w14_DagLast.j2 k x3 x4 x5 x6 x578a x578b x578c x578d x578e x578f x578g x578h)) else (w14_DagLast.j2 k x3 x4 x5 x6 x578a x578b x578c x578d x578e x578f x578g x578h)
end
def w14_DagLast.f (k : Nat) (l0_0 : List (S24)) (a0_1 : Int) (a0_2 : Int) (a0_3 : Int) (a0_4 : Int) (a0_5 : Int) (a0_6 : ByteArray) (l0_7 : List Int) : Option (Bool) := (w14_Heavy.f k l0_0 a0_1 a0_2 a0_3 a0_4 a0_5 a0_6 l0_7).bind fun t578 => (if t578 = true then (some true) else ((w14_rows.f k l0_0 a0_1 a0_2 a0_3 a0_4 a0_5 a0_6 l0_7).bind fun t579 => (w14_DagLast.l0 k t579 (([(⟨a0_1, a0_2, a0_3, a0_4, a0_5, a0_6⟩ : S24), (⟨0, 0, 0, 0, 0, (⟨#[]⟩ : ByteArray)⟩ : S24), (⟨33, 0, 0, 0, 0, (⟨#[]⟩ : ByteArray)⟩ : S24), (⟨32, 0, 0, 0, 0, (⟨#[]⟩ : ByteArray)⟩ : S24), (⟨28, 0, 0, 0, 0, (⟨#[97]⟩ : ByteArray)⟩ : S24), (⟨29, 0, 1, 0, 0, (⟨#[97]⟩ : ByteArray)⟩ : S24), (⟨1, 0, 0, 0, 0, (⟨#[]⟩ : ByteArray)⟩ : S24)] : List (S24))) 0 l0_0 a0_1 a0_2 a0_3 a0_4 a0_5 a0_6 l0_7)))
def w14_DagLast.T12 : Bool × List (List Nat × List Nat) := (true, [([], []), ([], []), ([], []), ([2], [2]), ([], []), ([], []), ([5], [5]), ([6], [6]), ([4, 7], [4, 7]), ([3, 8], [3, 8]), ([9], [9]), ([0, 1, 0, 1, 2, 3, 4, 5, 6, 7, 8, 9, 10], [0, 1]), ([11, 10, 0, 1, 2, 3, 4, 5, 6, 7, 8, 9, 10], [10, 11])])
def w14_DagLast.B12 : List Nat := [0, 0, 0, 4, 0, 0, 32, 96, 240, 508, 1020, 2047, 4095]
theorem w14_DagLast.tab12 : rtab .any (opsOf Try.f7 12) = w14_DagLast.T12 := by kernel_rfl
theorem w14_DagLast.bits12 : waitsOk w14_DagLast.T12.2 w14_DagLast.B12 = true := by kernel_rfl
def w14_DagLast.T17 : Bool × List (List Nat × List Nat) := (true, [([], []), ([], []), ([0, 1], [0, 1]), ([2], [2]), ([], []), ([], []), ([4, 5], [4, 5]), ([6], [6]), ([], []), ([3, 7, 8], [3, 7, 8]), ([9], [9]), ([10], [10]), ([10], [10]), ([11, 9, 0, 1, 2, 3, 4, 5, 6, 7, 8, 9, 10, 11], [11]), ([12, 13, 0, 1, 2, 3, 4, 5, 6, 7, 8, 9, 10, 11, 12, 13], [12])])
def w14_DagLast.B17 : List Nat := [0, 0, 3, 7, 0, 0, 48, 112, 0, 511, 1023, 2047, 2047, 4095, 16383]
theorem w14_DagLast.tab17 : rtab .any (opsOf Try.f7 17) = w14_DagLast.T17 := by kernel_rfl
theorem w14_DagLast.bits17 : waitsOk w14_DagLast.T17.2 w14_DagLast.B17 = true := by kernel_rfl
def w14_DagLast.T25 : Bool × List (List Nat × List Nat) := (true, [([], []), ([], []), ([0, 1], [0, 1]), ([2], [2]), ([], []), ([], []), ([4, 5], [4, 5]), ([6], [6]), ([], []), ([3, 7, 8], [3, 7, 8]), ([9], []), ([9, 10, 0, 1, 2, 3, 4, 5, 6, 7, 8, 9, 10], [9])])
def w14_DagLast.B25 : List Nat := [0, 0, 3, 7, 0, 0, 48, 112, 0, 511, 1023, 2047]
theorem w14_DagLast.tab25 : rtab .any (opsOf Try.f7 25) = w14_DagLast.T25 := by kernel_rfl
theorem w14_DagLast.bits25 : waitsOk w14_DagLast.T25.2 w14_DagLast.B25 = true := by kernel_rfl
def w14_DagLast.T28 : Bool × List (List Nat × List Nat) := (true, [([], []), ([], []), ([0, 1], [0, 1]), ([2], [2]), ([], []), ([], []), ([5], [5]), ([], []), ([6, 7, 6], [6, 7]), ([3, 4, 8, 8], [3, 4, 8]), ([9], [9]), ([10], [10]), ([10], [10]), ([11, 9, 0, 1, 2, 3, 4, 5, 6, 7, 8, 9, 10, 11], [11]), ([12, 13, 0, 1, 2, 3, 4, 5, 6, 7, 8, 9, 10, 11, 12, 13], [12])])
def w14_DagLast.B28 : List Nat := [0, 0, 3, 7, 0, 0, 32, 0, 224, 511, 1023, 2047, 2047, 4095, 16383]
theorem w14_DagLast.tab28 : rtab .any (opsOf Try.f7 28) = w14_DagLast.T28 := by kernel_rfl
theorem w14_DagLast.bits28 : waitsOk w14_DagLast.T28.2 w14_DagLast.B28 = true := by kernel_rfl
set_option maxHeartbeats 8000000 in
set_option maxRecDepth 100000 in
theorem w14_DagLast.calls (k : Nat) (A0_0 : Option Addr) (c0_0 : Nat) (l0_0 : List (S24)) (a0_1 : Int) (a0_2 : Int) (a0_3 : Int) (a0_4 : Int) (a0_5 : Int) (a0_6 : ByteArray) (A0_7 : Option Addr) (c0_7 : Nat) (l0_7 : List Int) (r : Bool) (w : World) (hr0_0 : Kd.C k24 w A0_0 l0_0.length l0_0) (hc0_0 : l0_0.length ≤ c0_0) (hr0_7 : Kd.C (Kd.int .i64) w A0_7 l0_7.length l0_7) (hc0_7 : l0_7.length ≤ c0_7) (h : w14_DagLast.f k l0_0 a0_1 a0_2 a0_3 a0_4 a0_5 a0_6 l0_7 = some r) :
    Calls Try.prog 7 #[.agg #[.slice A0_0 l0_0.length c0_0, .int .i64 a0_1, .int .i64 a0_2, .int .i64 a0_3, .int .i64 a0_4, .int .i64 a0_5, .string a0_6, .slice A0_7 l0_7.length c0_7]] w fun e w' => e = .returned (.bool r) ∧ Below w.heap.size w w' := by
 have hu27 := Try.underlying27
 have hu24 := Try.underlying24
 have HR0_0 := As_.mk hr0_0
 have HC0_0 := As_.mk hc0_0
 clear hr0_0 hc0_0
 have HR0_7 := As_.mk hr0_7
 have HC0_7 := As_.mk hc0_7
 clear hr0_7 hc0_7
 have HB := As_.mk (Below.refl w.heap.size w)
 have H : ((w14_Heavy.f k l0_0 a0_1 a0_2 a0_3 a0_4 a0_5 a0_6 l0_7).bind fun t578 => (if t578 = true then (some true) else ((w14_rows.f k l0_0 a0_1 a0_2 a0_3 a0_4 a0_5 a0_6 l0_7).bind fun t579 => (w14_DagLast.l0 k t579 (([(⟨a0_1, a0_2, a0_3, a0_4, a0_5, a0_6⟩ : S24), (⟨0, 0, 0, 0, 0, (⟨#[]⟩ : ByteArray)⟩ : S24), (⟨33, 0, 0, 0, 0, (⟨#[]⟩ : ByteArray)⟩ : S24), (⟨32, 0, 0, 0, 0, (⟨#[]⟩ : ByteArray)⟩ : S24), (⟨28, 0, 0, 0, 0, (⟨#[97]⟩ : ByteArray)⟩ : S24), (⟨29, 0, 1, 0, 0, (⟨#[97]⟩ : ByteArray)⟩ : S24), (⟨1, 0, 0, 0, 0, (⟨#[]⟩ : ByteArray)⟩ : S24)] : List (S24))) 0 l0_0 a0_1 a0_2 a0_3 a0_4 a0_5 a0_6 l0_7)))) = some r := h
 clear h
 replace H := Option.bind_eq_some_iff.mp H
 obtain ⟨t578, A20, H⟩ := H
 replace H : (if t578 = true then (some true) else ((w14_rows.f k l0_0 a0_1 a0_2 a0_3 a0_4 a0_5 a0_6 l0_7).bind fun t579 => (w14_DagLast.l0 k t579 (([(⟨a0_1, a0_2, a0_3, a0_4, a0_5, a0_6⟩ : S24), (⟨0, 0, 0, 0, 0, (⟨#[]⟩ : ByteArray)⟩ : S24), (⟨33, 0, 0, 0, 0, (⟨#[]⟩ : ByteArray)⟩ : S24), (⟨32, 0, 0, 0, 0, (⟨#[]⟩ : ByteArray)⟩ : S24), (⟨28, 0, 0, 0, 0, (⟨#[97]⟩ : ByteArray)⟩ : S24), (⟨29, 0, 1, 0, 0, (⟨#[97]⟩ : ByteArray)⟩ : S24), (⟨1, 0, 0, 0, 0, (⟨#[]⟩ : ByteArray)⟩ : S24)] : List (S24))) 0 l0_0 a0_1 a0_2 a0_3 a0_4 a0_5 a0_6 l0_7))) = some r := H
 have A2 := As_.mk A20
 clear A20
 by_cases c3 : t578 = true
 ·subst c3
  have H1 : (some true) = some r := by rw [if_pos rfl] at H; exact H
  clear H
  have H := H1
  clear H1
  obtain rfl := Option.some.inj H
  go_enter Try.func7, Try.ntmps7
  go_wp2_with (first | ((with_reducible refine gate_dst (N := 1) rfl ?_); refine box_event ?hg (N := 1) ?hd (cs := #[.slice A0_0 l0_0.length c0_0, .int .i64 a0_1, .int .i64 a0_2, .int .i64 a0_3, .int .i64 a0_4, .int .i64 a0_5, .string a0_6, .slice A0_7 l0_7.length c0_7]) (t := 27) ?hr ?_; (case hd => rfl); (case hg => rfl); (case hr => first | (go_simp; done) | (go_simp; rfl)); intro gb577 hg w4 hbox hb; have n0_ := As_.mk (bT_ (by repeat (first | (with_reducible first | exact HB.out | apply bA_ | apply bN_ | apply b1_) | exact HB.out)) hb); have n1_ := As_.mk (hbox); have n2_ := As_.mk ((by rw [hg]; exact (bY_ (by repeat (first | (with_reducible first | exact HB.out | apply bA_ | apply bN_ | apply b1_) | exact HB.out))) : w.heap.size ≤ gb577)); have n3_ := As_.mk ((by rw [hg]; exact (bY_ (by repeat (first | (with_reducible first | exact HB.out | apply bA_ | apply bN_ | apply b1_) | exact HB.out))) : w.heap.size ≤ gb577)); clear HB; have HB := n0_; have BK577 := n1_; have GW577 := n2_; have GE577 := n3_; clear n0_ n1_ n2_ n3_; clear hb hbox hg; have hcz5_0 : w4.cell? ⟨gb577, 0, none⟩ = some (.slice A0_0 l0_0.length c0_0) := (bC_ BK577.out 0).trans rfl; have hcz5_1 : w4.cell? ⟨gb577, 1, none⟩ = some (.int .i64 a0_1) := (bC_ BK577.out 1).trans rfl; have hcz5_2 : w4.cell? ⟨gb577, 2, none⟩ = some (.int .i64 a0_2) := (bC_ BK577.out 2).trans rfl; have hcz5_3 : w4.cell? ⟨gb577, 3, none⟩ = some (.int .i64 a0_3) := (bC_ BK577.out 3).trans rfl; have hcz5_4 : w4.cell? ⟨gb577, 4, none⟩ = some (.int .i64 a0_4) := (bC_ BK577.out 4).trans rfl; have hcz5_5 : w4.cell? ⟨gb577, 5, none⟩ = some (.int .i64 a0_5) := (bC_ BK577.out 5).trans rfl; have hcz5_6 : w4.cell? ⟨gb577, 6, none⟩ = some (.string a0_6) := (bC_ BK577.out 6).trans rfl; have hcz5_7 : w4.cell? ⟨gb577, 7, none⟩ = some (.slice A0_7 l0_7.length c0_7) := (bC_ BK577.out 7).trans rfl; have hfz5_0 := bZ_ BK577.out 0; have hfz5_1 := bZ_ BK577.out 1; have hfz5_2 := bZ_ BK577.out 2; have hfz5_3 := bZ_ BK577.out 3; have hfz5_4 := bZ_ BK577.out 4; have hfz5_5 := bZ_ BK577.out 5; have hfz5_6 := bZ_ BK577.out 6; have hfz5_7 := bZ_ BK577.out 7) | ((with_reducible refine gC_ (f := 28) rfl ?_); refine goesL_ (some 19) rfl rfl Try.func28 (by kernel_rfl) rfl #[.agg #[.slice A0_0 l0_0.length c0_0, .int .i64 a0_1, .int .i64 a0_2, .int .i64 a0_3, .int .i64 a0_4, .int .i64 a0_5, .string a0_6, .slice A0_7 l0_7.length c0_7]] rfl (by (try simp only [List.map_toArray, List.map_cons, List.map_nil]); first | done | rfl) ?_; (with_reducible refine (w14_Heavy.calls k _ _ l0_0 a0_1 a0_2 a0_3 a0_4 a0_5 a0_6 _ _ l0_7 true _ ?side1 ?side2 ?side3 ?side4 A2.out).mono ?_); (case side1 => repeat (first | exact (Kd.C_below HR0_0.out HB.out) | (with_reducible refine Kd.C_alloc ?_ _) | (with_reducible refine Kd.C_drewN ?_ _) | (with_reducible refine Kd.C_drew ?_))); (case side2 => exact HC0_0.out); (case side3 => repeat (first | exact (Kd.C_below HR0_7.out HB.out) | (with_reducible refine Kd.C_alloc ?_ _) | (with_reducible refine Kd.C_drewN ?_ _) | (with_reducible refine Kd.C_drew ?_))); (case side4 => exact HC0_7.out); rintro e w6 ⟨rfl, hb⟩; refine ⟨_, rfl, ?_⟩; have n0_ := As_.mk (kB_ (g := gb577) (o := .cells #[.slice A0_0 l0_0.length c0_0, .int .i64 a0_1, .int .i64 a0_2, .int .i64 a0_3, .int .i64 a0_4, .int .i64 a0_5, .string a0_6, .slice A0_7 l0_7.length c0_7] 27 (0, 0)) (by (with_reducible repeat (first | refine kN_ ?_ _ | refine kD_ ?_ | refine kA_ ?_ _)); exact BK577.out) hb); have n1_ := As_.mk (bT_ (by repeat (first | (with_reducible first | exact HB.out | apply bA_ | apply bN_ | apply b1_ | refine bS_ ?_ GE577.out) | exact HB.out)) hb); clear BK577; clear HB; have BK577 := n0_; have HB := n1_; clear n0_ n1_))
  go_ret
  exact ⟨by first | rfl | (simp [eN_, eS_] <;> rfl) | (simp [*, eN_, eS_] <;> rfl), by repeat (first | (with_reducible first | exact HB.out | apply bA_ | apply bN_ | apply b1_ | refine bS_ ?_ GE577.out) | exact HB.out)⟩
 replace c3 := Bool.eq_false_iff.mpr c3
 subst c3
 have H1 : ((w14_rows.f k l0_0 a0_1 a0_2 a0_3 a0_4 a0_5 a0_6 l0_7).bind fun t579 => (w14_DagLast.l0 k t579 (([(⟨a0_1, a0_2, a0_3, a0_4, a0_5, a0_6⟩ : S24), (⟨0, 0, 0, 0, 0, (⟨#[]⟩ : ByteArray)⟩ : S24), (⟨33, 0, 0, 0, 0, (⟨#[]⟩ : ByteArray)⟩ : S24), (⟨32, 0, 0, 0, 0, (⟨#[]⟩ : ByteArray)⟩ : S24), (⟨28, 0, 0, 0, 0, (⟨#[97]⟩ : ByteArray)⟩ : S24), (⟨29, 0, 1, 0, 0, (⟨#[97]⟩ : ByteArray)⟩ : S24), (⟨1, 0, 0, 0, 0, (⟨#[]⟩ : ByteArray)⟩ : S24)] : List (S24))) 0 l0_0 a0_1 a0_2 a0_3 a0_4 a0_5 a0_6 l0_7)) = some r := by rw [if_neg (show ¬ (false = true) by decide)] at H; exact H
 clear H
 have H := H1
 clear H1
 replace H := Option.bind_eq_some_iff.mp H
 obtain ⟨t579, A70, H⟩ := H
 replace H : (w14_DagLast.l0 k t579 (([(⟨a0_1, a0_2, a0_3, a0_4, a0_5, a0_6⟩ : S24), (⟨0, 0, 0, 0, 0, (⟨#[]⟩ : ByteArray)⟩ : S24), (⟨33, 0, 0, 0, 0, (⟨#[]⟩ : ByteArray)⟩ : S24), (⟨32, 0, 0, 0, 0, (⟨#[]⟩ : ByteArray)⟩ : S24), (⟨28, 0, 0, 0, 0, (⟨#[97]⟩ : ByteArray)⟩ : S24), (⟨29, 0, 1, 0, 0, (⟨#[97]⟩ : ByteArray)⟩ : S24), (⟨1, 0, 0, 0, 0, (⟨#[]⟩ : ByteArray)⟩ : S24)] : List (S24))) 0 l0_0 a0_1 a0_2 a0_3 a0_4 a0_5 a0_6 l0_7) = some r := H
 have A7 := As_.mk A70
 clear A70
 obtain ⟨y582, hy582⟩ : ∃ y_ : List (S24), y_ = (([(⟨a0_1, a0_2, a0_3, a0_4, a0_5, a0_6⟩ : S24), (⟨0, 0, 0, 0, 0, (⟨#[]⟩ : ByteArray)⟩ : S24), (⟨33, 0, 0, 0, 0, (⟨#[]⟩ : ByteArray)⟩ : S24), (⟨32, 0, 0, 0, 0, (⟨#[]⟩ : ByteArray)⟩ : S24), (⟨28, 0, 0, 0, 0, (⟨#[97]⟩ : ByteArray)⟩ : S24), (⟨29, 0, 1, 0, 0, (⟨#[97]⟩ : ByteArray)⟩ : S24), (⟨1, 0, 0, 0, 0, (⟨#[]⟩ : ByteArray)⟩ : S24)] : List (S24))) := ⟨_, rfl⟩
 replace H : (w14_DagLast.l0 k t579 y582 0 l0_0 a0_1 a0_2 a0_3 a0_4 a0_5 a0_6 l0_7) = some r := by first | (rw [hy582]; with_reducible exact H) | (have H2_ := (Option.bind_some _ _).symm.trans H; rw [hy582]; with_reducible exact H2_) | (have H2_ := (Option.bind_some _ _).symm.trans H; with_reducible exact H2_) | with_reducible exact H | (rw [hy582]; exact H) | exact H
 have Ny582 := As_.mk hy582
 clear hy582
 have H' := As_.mk H
 clear H
 go_enter Try.func7, Try.ntmps7
 go_wp2_with (first | ((with_reducible refine gate_dst (N := 1) rfl ?_); refine box_event ?hg (N := 1) ?hd (cs := #[.slice A0_0 l0_0.length c0_0, .int .i64 a0_1, .int .i64 a0_2, .int .i64 a0_3, .int .i64 a0_4, .int .i64 a0_5, .string a0_6, .slice A0_7 l0_7.length c0_7]) (t := 27) ?hr ?_; (case hd => rfl); (case hg => rfl); (case hr => first | (go_simp; done) | (go_simp; rfl)); intro gb577 hg w8 hbox hb; have n0_ := As_.mk (bT_ (by repeat (first | (with_reducible first | exact HB.out | apply bA_ | apply bN_ | apply b1_) | exact HB.out)) hb); have n1_ := As_.mk (hbox); have n2_ := As_.mk ((by rw [hg]; exact (bY_ (by repeat (first | (with_reducible first | exact HB.out | apply bA_ | apply bN_ | apply b1_) | exact HB.out))) : w.heap.size ≤ gb577)); have n3_ := As_.mk ((by rw [hg]; exact (bY_ (by repeat (first | (with_reducible first | exact HB.out | apply bA_ | apply bN_ | apply b1_) | exact HB.out))) : w.heap.size ≤ gb577)); clear HB; have HB := n0_; have BK577 := n1_; have GW577 := n2_; have GE577 := n3_; clear n0_ n1_ n2_ n3_; clear hb hbox hg; have hcz9_0 : w8.cell? ⟨gb577, 0, none⟩ = some (.slice A0_0 l0_0.length c0_0) := (bC_ BK577.out 0).trans rfl; have hcz9_1 : w8.cell? ⟨gb577, 1, none⟩ = some (.int .i64 a0_1) := (bC_ BK577.out 1).trans rfl; have hcz9_2 : w8.cell? ⟨gb577, 2, none⟩ = some (.int .i64 a0_2) := (bC_ BK577.out 2).trans rfl; have hcz9_3 : w8.cell? ⟨gb577, 3, none⟩ = some (.int .i64 a0_3) := (bC_ BK577.out 3).trans rfl; have hcz9_4 : w8.cell? ⟨gb577, 4, none⟩ = some (.int .i64 a0_4) := (bC_ BK577.out 4).trans rfl; have hcz9_5 : w8.cell? ⟨gb577, 5, none⟩ = some (.int .i64 a0_5) := (bC_ BK577.out 5).trans rfl; have hcz9_6 : w8.cell? ⟨gb577, 6, none⟩ = some (.string a0_6) := (bC_ BK577.out 6).trans rfl; have hcz9_7 : w8.cell? ⟨gb577, 7, none⟩ = some (.slice A0_7 l0_7.length c0_7) := (bC_ BK577.out 7).trans rfl; have hfz9_0 := bZ_ BK577.out 0; have hfz9_1 := bZ_ BK577.out 1; have hfz9_2 := bZ_ BK577.out 2; have hfz9_3 := bZ_ BK577.out 3; have hfz9_4 := bZ_ BK577.out 4; have hfz9_5 := bZ_ BK577.out 5; have hfz9_6 := bZ_ BK577.out 6; have hfz9_7 := bZ_ BK577.out 7) | ((with_reducible refine gC_ (f := 28) rfl ?_); refine goesL_ (some 19) rfl rfl Try.func28 (by kernel_rfl) rfl #[.agg #[.slice A0_0 l0_0.length c0_0, .int .i64 a0_1, .int .i64 a0_2, .int .i64 a0_3, .int .i64 a0_4, .int .i64 a0_5, .string a0_6, .slice A0_7 l0_7.length c0_7]] rfl (by (try simp only [List.map_toArray, List.map_cons, List.map_nil]); first | done | rfl) ?_; (with_reducible refine (w14_Heavy.calls k _ _ l0_0 a0_1 a0_2 a0_3 a0_4 a0_5 a0_6 _ _ l0_7 false _ ?side1 ?side2 ?side3 ?side4 A2.out).mono ?_); (case side1 => repeat (first | exact (Kd.C_below HR0_0.out HB.out) | (with_reducible refine Kd.C_alloc ?_ _) | (with_reducible refine Kd.C_drewN ?_ _) | (with_reducible refine Kd.C_drew ?_))); (case side2 => exact HC0_0.out); (case side3 => repeat (first | exact (Kd.C_below HR0_7.out HB.out) | (with_reducible refine Kd.C_alloc ?_ _) | (with_reducible refine Kd.C_drewN ?_ _) | (with_reducible refine Kd.C_drew ?_))); (case side4 => exact HC0_7.out); rintro e w10 ⟨rfl, hb⟩; refine ⟨_, rfl, ?_⟩; have n0_ := As_.mk (kB_ (g := gb577) (o := .cells #[.slice A0_0 l0_0.length c0_0, .int .i64 a0_1, .int .i64 a0_2, .int .i64 a0_3, .int .i64 a0_4, .int .i64 a0_5, .string a0_6, .slice A0_7 l0_7.length c0_7] 27 (0, 0)) (by (with_reducible repeat (first | refine kN_ ?_ _ | refine kD_ ?_ | refine kA_ ?_ _)); exact BK577.out) hb); have n1_ := As_.mk (bT_ (by repeat (first | (with_reducible first | exact HB.out | apply bA_ | apply bN_ | apply b1_ | refine bS_ ?_ GE577.out) | exact HB.out)) hb); clear BK577; clear HB; have BK577 := n0_; have HB := n1_; clear n0_ n1_; have hcz11_0 : w10.cell? ⟨gb577, 0, none⟩ = some (.slice A0_0 l0_0.length c0_0) := (bC_ BK577.out 0).trans rfl; have hcz11_1 : w10.cell? ⟨gb577, 1, none⟩ = some (.int .i64 a0_1) := (bC_ BK577.out 1).trans rfl; have hcz11_2 : w10.cell? ⟨gb577, 2, none⟩ = some (.int .i64 a0_2) := (bC_ BK577.out 2).trans rfl; have hcz11_3 : w10.cell? ⟨gb577, 3, none⟩ = some (.int .i64 a0_3) := (bC_ BK577.out 3).trans rfl; have hcz11_4 : w10.cell? ⟨gb577, 4, none⟩ = some (.int .i64 a0_4) := (bC_ BK577.out 4).trans rfl; have hcz11_5 : w10.cell? ⟨gb577, 5, none⟩ = some (.int .i64 a0_5) := (bC_ BK577.out 5).trans rfl; have hcz11_6 : w10.cell? ⟨gb577, 6, none⟩ = some (.string a0_6) := (bC_ BK577.out 6).trans rfl; have hcz11_7 : w10.cell? ⟨gb577, 7, none⟩ = some (.slice A0_7 l0_7.length c0_7) := (bC_ BK577.out 7).trans rfl; have hfz11_0 := bZ_ BK577.out 0; have hfz11_1 := bZ_ BK577.out 1; have hfz11_2 := bZ_ BK577.out 2; have hfz11_3 := bZ_ BK577.out 3; have hfz11_4 := bZ_ BK577.out 4; have hfz11_5 := bZ_ BK577.out 5; have hfz11_6 := bZ_ BK577.out 6; have hfz11_7 := bZ_ BK577.out 7) | ((with_reducible refine gC_ (f := 29) rfl ?_); refine goesL_ (some 21) rfl rfl Try.func29 (by kernel_rfl) rfl #[.agg #[.slice A0_0 l0_0.length c0_0, .int .i64 a0_1, .int .i64 a0_2, .int .i64 a0_3, .int .i64 a0_4, .int .i64 a0_5, .string a0_6, .slice A0_7 l0_7.length c0_7]] rfl (by (try simp only [List.map_toArray, List.map_cons, List.map_nil]); first | done | rfl) ?_; (with_reducible refine (w14_rows.calls k (fun k_ => k_ < w.heap.size) _ _ l0_0 a0_1 a0_2 a0_3 a0_4 a0_5 a0_6 _ _ l0_7 t579 _ ?side1 ?side2 ?side3 A7.out).mono ?_); (case side1 => exact Kd.V_mk HC0_0.out (Kd.F_below (Kd.C_F k24_heap HR0_0.out) (by repeat (first | (with_reducible first | exact HB.out | apply bA_ | apply bN_ | apply b1_ | refine bS_ ?_ GE577.out) | exact HB.out)))); (case side2 => repeat (first | exact (Kd.C_below HR0_7.out HB.out) | (with_reducible refine Kd.C_alloc ?_ _) | (with_reducible refine Kd.C_drewN ?_ _) | (with_reducible refine Kd.C_drew ?_))); (case side3 => exact HC0_7.out); rintro e w12 ⟨v580, rfl, ho0, hb⟩; refine ⟨_, rfl, ?_⟩; have n0_ := As_.mk (Kd.N_lower (Kd.N_mono (ok' := fun k_ => k_ ≠ gb577) ho0 (fun k_ hk_ => Or.elim hk_ (fun hs_ => fun e_ => Nat.not_le.2 hs_ (by rw [e_]; exact GW577.out)) (fun hn_ => (Kd.freshB (g := gb577) (o := .cells #[.slice A0_0 l0_0.length c0_0, .int .i64 a0_1, .int .i64 a0_2, .int .i64 a0_3, .int .i64 a0_4, .int .i64 a0_5, .string a0_6, .slice A0_7 l0_7.length c0_7] 27 (0, 0)) (by (with_reducible repeat (first | refine kN_ ?_ _ | refine kD_ ?_ | refine kA_ ?_ _)); exact BK577.out) k_ hn_)))) (bY_ (by repeat (first | (with_reducible first | exact HB.out | apply bA_ | apply bN_ | apply b1_ | refine bS_ ?_ GE577.out) | exact HB.out)))); have n1_ := As_.mk (kB_ (g := gb577) (o := .cells #[.slice A0_0 l0_0.length c0_0, .int .i64 a0_1, .int .i64 a0_2, .int .i64 a0_3, .int .i64 a0_4, .int .i64 a0_5, .string a0_6, .slice A0_7 l0_7.length c0_7] 27 (0, 0)) (by (with_reducible repeat (first | refine kN_ ?_ _ | refine kD_ ?_ | refine kA_ ?_ _)); exact BK577.out) hb); have n2_ := As_.mk (bT_ (by repeat (first | (with_reducible first | exact HB.out | apply bA_ | apply bN_ | apply b1_ | refine bS_ ?_ GE577.out) | exact HB.out)) hb); clear BK577; clear HB; have HO581 := n0_; have BK577 := n1_; have HB := n2_; clear n0_ n1_ n2_; (try clear ho0); have hcz13_0 : w12.cell? ⟨gb577, 0, none⟩ = some (.slice A0_0 l0_0.length c0_0) := (bC_ BK577.out 0).trans rfl; have hcz13_1 : w12.cell? ⟨gb577, 1, none⟩ = some (.int .i64 a0_1) := (bC_ BK577.out 1).trans rfl; have hcz13_2 : w12.cell? ⟨gb577, 2, none⟩ = some (.int .i64 a0_2) := (bC_ BK577.out 2).trans rfl; have hcz13_3 : w12.cell? ⟨gb577, 3, none⟩ = some (.int .i64 a0_3) := (bC_ BK577.out 3).trans rfl; have hcz13_4 : w12.cell? ⟨gb577, 4, none⟩ = some (.int .i64 a0_4) := (bC_ BK577.out 4).trans rfl; have hcz13_5 : w12.cell? ⟨gb577, 5, none⟩ = some (.int .i64 a0_5) := (bC_ BK577.out 5).trans rfl; have hcz13_6 : w12.cell? ⟨gb577, 6, none⟩ = some (.string a0_6) := (bC_ BK577.out 6).trans rfl; have hcz13_7 : w12.cell? ⟨gb577, 7, none⟩ = some (.slice A0_7 l0_7.length c0_7) := (bC_ BK577.out 7).trans rfl; have hfz13_0 := bZ_ BK577.out 0; have hfz13_1 := bZ_ BK577.out 1; have hfz13_2 := bZ_ BK577.out 2; have hfz13_3 := bZ_ BK577.out 3; have hfz13_4 := bZ_ BK577.out 4; have hfz13_5 := bZ_ BK577.out 5; have hfz13_6 := bZ_ BK577.out 6; have hfz13_7 := bZ_ BK577.out 7) | ((with_reducible refine gate_dst (N := 30) rfl ?_); refine Kd.R_lit k24 _ 24 ?hg (N := 30) ?hd (xs := ([(⟨a0_1, a0_2, a0_3, a0_4, a0_5, a0_6⟩ : S24), (⟨0, 0, 0, 0, 0, (⟨#[]⟩ : ByteArray)⟩ : S24), (⟨33, 0, 0, 0, 0, (⟨#[]⟩ : ByteArray)⟩ : S24), (⟨32, 0, 0, 0, 0, (⟨#[]⟩ : ByteArray)⟩ : S24), (⟨28, 0, 0, 0, 0, (⟨#[97]⟩ : ByteArray)⟩ : S24), (⟨29, 0, 1, 0, 0, (⟨#[97]⟩ : ByteArray)⟩ : S24), (⟨1, 0, 0, 0, 0, (⟨#[]⟩ : ByteArray)⟩ : S24)] : List (S24))) (inner := [.int .i64 a0_1, .int .i64 a0_2, .int .i64 a0_3, .int .i64 a0_4, .int .i64 a0_5, .string a0_6, .int .i64 0, .int .i64 0, .int .i64 0, .int .i64 0, .int .i64 0, .string (⟨#[]⟩ : ByteArray), .int .i64 33, .int .i64 0, .int .i64 0, .int .i64 0, .int .i64 0, .string (⟨#[]⟩ : ByteArray), .int .i64 32, .int .i64 0, .int .i64 0, .int .i64 0, .int .i64 0, .string (⟨#[]⟩ : ByteArray), .int .i64 28, .int .i64 0, .int .i64 0, .int .i64 0, .int .i64 0, .string (⟨#[97]⟩ : ByteArray), .int .i64 29, .int .i64 0, .int .i64 1, .int .i64 0, .int .i64 0, .string (⟨#[97]⟩ : ByteArray), .int .i64 1, .int .i64 0, .int .i64 0, .int .i64 0, .int .i64 0, .string (⟨#[]⟩ : ByteArray)]) (ok := fun _ => True) (okp := fun _ => True) ?hr ?hp (fun _ hk => hk) trivial (Below.refl _ _) (Nat.le_refl _) (by simp) ?_; (case hd => rfl); (case hg => rfl); (case hr => first | (go_simp; done) | (go_simp; rfl)); (case hp => exact (Reps.c6 (show Kd.M k24 _ _ _ (⟨a0_1, a0_2, a0_3, a0_4, a0_5, a0_6⟩ : S24) [.int .i64 a0_1, .int .i64 a0_2, .int .i64 a0_3, .int .i64 a0_4, .int .i64 a0_5, .string a0_6] from (k24_mkM _ _ _ (⟨a0_1, a0_2, a0_3, a0_4, a0_5, a0_6⟩ : S24) )) (Reps.c6 (show Kd.M k24 _ _ _ (⟨0, 0, 0, 0, 0, (⟨#[]⟩ : ByteArray)⟩ : S24) [.int .i64 0, .int .i64 0, .int .i64 0, .int .i64 0, .int .i64 0, .string (⟨#[]⟩ : ByteArray)] from (k24_mkM _ _ _ (⟨0, 0, 0, 0, 0, (⟨#[]⟩ : ByteArray)⟩ : S24) )) (Reps.c6 (show Kd.M k24 _ _ _ (⟨33, 0, 0, 0, 0, (⟨#[]⟩ : ByteArray)⟩ : S24) [.int .i64 33, .int .i64 0, .int .i64 0, .int .i64 0, .int .i64 0, .string (⟨#[]⟩ : ByteArray)] from (k24_mkM _ _ _ (⟨33, 0, 0, 0, 0, (⟨#[]⟩ : ByteArray)⟩ : S24) )) (Reps.c6 (show Kd.M k24 _ _ _ (⟨32, 0, 0, 0, 0, (⟨#[]⟩ : ByteArray)⟩ : S24) [.int .i64 32, .int .i64 0, .int .i64 0, .int .i64 0, .int .i64 0, .string (⟨#[]⟩ : ByteArray)] from (k24_mkM _ _ _ (⟨32, 0, 0, 0, 0, (⟨#[]⟩ : ByteArray)⟩ : S24) )) (Reps.c6 (show Kd.M k24 _ _ _ (⟨28, 0, 0, 0, 0, (⟨#[97]⟩ : ByteArray)⟩ : S24) [.int .i64 28, .int .i64 0, .int .i64 0, .int .i64 0, .int .i64 0, .string (⟨#[97]⟩ : ByteArray)] from (k24_mkM _ _ _ (⟨28, 0, 0, 0, 0, (⟨#[97]⟩ : ByteArray)⟩ : S24) )) (Reps.c6 (show Kd.M k24 _ _ _ (⟨29, 0, 1, 0, 0, (⟨#[97]⟩ : ByteArray)⟩ : S24) [.int .i64 29, .int .i64 0, .int .i64 1, .int .i64 0, .int .i64 0, .string (⟨#[97]⟩ : ByteArray)] from (k24_mkM _ _ _ (⟨29, 0, 1, 0, 0, (⟨#[97]⟩ : ByteArray)⟩ : S24) )) (Reps.c6 (show Kd.M k24 _ _ _ (⟨1, 0, 0, 0, 0, (⟨#[]⟩ : ByteArray)⟩ : S24) [.int .i64 1, .int .i64 0, .int .i64 0, .int .i64 0, .int .i64 0, .string (⟨#[]⟩ : ByteArray)] from (k24_mkM _ _ _ (⟨1, 0, 0, 0, 0, (⟨#[]⟩ : ByteArray)⟩ : S24) )) (Reps.none _ _))))))))); intro v583 w14 ho15 hb hg_ hnew_; clear hg_ hnew_; (first | rw [← Ny582.out] at ho15 | (simp only [Int.reduceToNat] at ho15; rw [← Ny582.out] at ho15)); have n0_ := As_.mk (Kd.N_elder' (by (with_reducible repeat (first | apply Kd.N_alloc | apply Kd.N_drewN | apply Kd.N_drew)); exact HO581.out) (Kd.R_base ho15) hb); have n1_ := As_.mk (Kd.R_lower ho15 (bY_ (by repeat (first | (with_reducible first | exact HB.out | apply bA_ | apply bN_ | apply b1_ | refine bS_ ?_ GE577.out) | exact HB.out)))); have n2_ := As_.mk (kB_ (g := gb577) (o := .cells #[.slice A0_0 l0_0.length c0_0, .int .i64 a0_1, .int .i64 a0_2, .int .i64 a0_3, .int .i64 a0_4, .int .i64 a0_5, .string a0_6, .slice A0_7 l0_7.length c0_7] 27 (0, 0)) (by (with_reducible repeat (first | refine kN_ ?_ _ | refine kD_ ?_ | refine kA_ ?_ _)); exact BK577.out) hb); have n3_ := As_.mk (bT_ (by repeat (first | (with_reducible first | exact HB.out | apply bA_ | apply bN_ | apply b1_ | refine bS_ ?_ GE577.out) | exact HB.out)) hb); clear HO581; clear BK577; clear HB; have HO581 := n0_; have HO584 := n1_; have BK577 := n2_; have HB := n3_; clear n0_ n1_ n2_ n3_; clear hb ho15))
 go_loopg [5] k (fun kq v5 w' => ∃ (x5_1 : Int), v5 = .int .i64 x5_1 ∧ As_ (w14_DagLast.l0 kq t579 y582 x5_1 l0_0 a0_1 a0_2 a0_3 a0_4 a0_5 a0_6 l0_7 = some r) ∧ As_ (kq ≤ k) ∧ As_ (Kd.N (Kd.slice 24 k24) 22 w' w.heap.size (fun k_ => some k_ ≠ (v583 : Value).ownBlock ∧ k_ ≠ gb577) v580 t579) ∧ As_ (Kd.R k24 24 w' w.heap.size (fun _ => True) v583 y582) ∧ As_ (w'.heap[gb577]? = some (.cells #[(.slice A0_0 l0_0.length c0_0), .int .i64 a0_1, .int .i64 a0_2, .int .i64 a0_3, .int .i64 a0_4, .int .i64 a0_5, .string a0_6, (.slice A0_7 l0_7.length c0_7)] 27 (0, 0))) ∧ As_ (Below w.heap.size w w'))
 case atStart => exact ⟨(0), (by first | rfl | (simp; done) | (simp [*]; done) | (simp [wrap64]; done) | (congr 1; rw [Bool.eq_iff_iff]; simp; done)), H', ⟨Nat.le_refl _⟩, ⟨by (with_reducible repeat (first | apply Kd.N_alloc | apply Kd.N_drewN | apply Kd.N_drew)); exact Kd.N_mono HO581.out (fun _ hk => ⟨hk.2, hk.1⟩)⟩, ⟨by (with_reducible repeat (first | apply Kd.R_alloc | apply Kd.R_drewN | apply Kd.R_drew)); exact HO584.out⟩, ⟨by (with_reducible repeat (first | refine kN_ ?_ _ | refine kD_ ?_ | refine kA_ ?_ _)); exact BK577.out⟩, ⟨by repeat (first | (with_reducible first | exact HB.out | apply bA_ | apply bN_ | apply b1_ | refine bS_ ?_ GE577.out) | exact HB.out)⟩⟩
 case round =>
  clear H'
  obtain ⟨x5_1, rfl, HA, HK1, HO_3, HO_4, BK577, HB⟩ := hrel
  cases gk with
  | zero => exact absurd HA.out (by simp [w14_DagLast.l0])
  | succ k1 =>
   have H := HA.out
   clear HA
   simp only [w14_DagLast.l0] at H
   by_cases c16 : x5_1 < (t579.length : Int)
   ·rw [if_pos c16] at H
    have c16b0 : decide (x5_1 < (t579.length : Int)) = true := decide_eq_true c16
    clear c16
    by_cases c17 : 0 ≤ x5_1
    ·rw [if_pos c17] at H
     have c17b0 : decide (0 ≤ x5_1) = true := decide_eq_true c17
     clear c17
     by_cases c18 : 0 ≤ ((rd_L5 t579 x5_1).length : Int)
     ·rw [if_pos c18] at H
      have c18b0 := eq_true c18
      have c18b1 : decide (0 ≤ ((rd_L5 t579 x5_1).length : Int)) = true := decide_eq_true c18
      clear c18
      by_cases c19 : (((rd_L5 t579 x5_1).length : Int) : Int).toNat ≤ 35184372088832
      ·rw [if_pos c19] at H
       have c19b0 := eq_true c19
       have c19b1 : decide ((((rd_L5 t579 x5_1).length : Int) : Int).toNat ≤ 35184372088832) = true := decide_eq_true c19
       clear c19
       obtain ⟨y587, hy587⟩ : ∃ y_ : List Int, y_ = (List.replicate (((rd_L5 t579 x5_1).length : Int) : Int).toNat 0) := ⟨_, rfl⟩
       replace H : (w14_DagLast.l1 k1 t579 y582 x5_1 y587 0 l0_0 a0_1 a0_2 a0_3 a0_4 a0_5 a0_6 l0_7) = some r := by first | (rw [hy587]; with_reducible exact H) | (have H2_ := (Option.bind_some _ _).symm.trans H; rw [hy587]; with_reducible exact H2_) | (have H2_ := (Option.bind_some _ _).symm.trans H; with_reducible exact H2_) | with_reducible exact H | (rw [hy587]; exact H) | exact H
       have Ny587 := As_.mk hy587
       clear hy587
       have HC20 := As_.mk H
       clear H
       obtain ⟨Ao21, co21, eo21⟩ := Kd.N_slice HO_3.out
       subst eo21
       have p586 : 0 ≤ (x5_1 : Int) := of_decide_eq_true (by assumption)
       have q586 : x5_1 < (t579.length : Int) := of_decide_eq_true (by assumption)
       obtain ⟨ad586, A586_0, c586_0, e586, hx586_0, hl586_0, hi586_0⟩ := at_L5 (Kd.N_reads' HO_3.out).2.2 x5_1 p586 q586
       cases e586
       obtain ⟨ce586, hce586, hMe586, hcc586⟩ := Kd.N_get HO_3.out [] x5_1 p586 (by first | exact q586 | exact of_decide_eq_true (by assumption) | (have e_ := (Kd.N_reads' HO_3.out).1; omega))
       obtain ⟨ua586_0, uc586_0, rfl, ul586_0, ge586_0⟩ := Kd.FK_slice_open hMe586
       have hv586_0 := hcc586 0 _ rfl
       rw [Nat.add_zero, show ((Kd.slice 24 k24)).sz = 1 from rfl, Nat.mul_one] at hv586_0
       replace hv586_0 := Option.some.inj (hv586_0.symm.trans hx586_0)
       injection hv586_0 with hva_ hvn_ hvc_
       rw [hva_] at ge586_0
       rw [hvc_] at ul586_0
       have HL586_0 := As_.mk (show Kd.V k24 24 _ w.heap.size _ _ (rd_L5 t579 x5_1) from Kd.V_mk ul586_0 ge586_0)
       clear hva_ hvn_ hvc_ ge586_0 ul586_0
       clear hcc586 hce586
       have HR586_0 := As_.mk hi586_0
       have HC586_0 := As_.mk hl586_0
       clear hi586_0 hl586_0
       replace p586 := eq_true p586
       replace q586 := eq_true q586
       go_upto_block 2 with (first | ((with_reducible refine gate_dst (N := 42) rfl ?_); refine Kd.R_make (Kd.int .i64) _ 3 rfl (N := 42) rfl 25 _ _ rfl ((rd_L5 t579 x5_1).length : Int) rfl rfl Try.underlying25 (.int .i64 0) 8 info3 rfl (by decide) (by omega) 0 (ok := fun _ => True) (okp := fun _ => True) rfl (fun _ hk => hk) trivial (of_decide_eq_true (by assumption)) (Nat.le_trans (Nat.mul_le_mul_right _ (of_decide_eq_true (by assumption) : ((rd_L5 t579 x5_1).length : Int).toNat ≤ 35184372088832)) (by omega)) (Below.refl _ _) (Nat.le_refl _) ?_; intro v588 w22 ho23 hb hg_ hnew_; clear hg_ hnew_; (first | rw [← Ny587.out] at ho23 | (simp only [Int.reduceToNat] at ho23; rw [← Ny587.out] at ho23)); have n0_ := As_.mk (Kd.N_elder' (by (with_reducible repeat (first | apply Kd.N_alloc | apply Kd.N_drewN | apply Kd.N_drew)); exact HO_3.out) (Kd.R_base ho23) hb); have n1_ := As_.mk (Kd.R_below (by (with_reducible repeat (first | apply Kd.R_alloc | apply Kd.R_drewN | apply Kd.R_drew)); exact HO_4.out) hb); have n2_ := As_.mk (Kd.V_elder' (by (with_reducible repeat (first | apply Kd.V_alloc | apply Kd.V_drewN | apply Kd.V_drew)); exact HL586_0.out) (Kd.R_base ho23) hb); have n3_ := As_.mk (Kd.R_lower ho23 (bY_ (by repeat (first | (with_reducible first | exact HB.out | apply bA_ | apply bN_ | apply b1_ | refine bS_ ?_ GE577.out) | exact HB.out)))); have n4_ := As_.mk (kB_ (g := gb577) (o := .cells #[.slice A0_0 l0_0.length c0_0, .int .i64 a0_1, .int .i64 a0_2, .int .i64 a0_3, .int .i64 a0_4, .int .i64 a0_5, .string a0_6, .slice A0_7 l0_7.length c0_7] 27 (0, 0)) (by (with_reducible repeat (first | refine kN_ ?_ _ | refine kD_ ?_ | refine kA_ ?_ _)); exact BK577.out) hb); have n5_ := As_.mk (Kd.C_below (by repeat (first | (with_reducible exact HR586_0.out) | (with_reducible refine Kd.C_alloc ?_ _) | (with_reducible refine Kd.C_drewN ?_ _) | (with_reducible refine Kd.C_drew ?_) | exact HR586_0.out)) hb); have n6_ := As_.mk (bT_ (by repeat (first | (with_reducible first | exact HB.out | apply bA_ | apply bN_ | apply b1_ | refine bS_ ?_ GE577.out) | exact HB.out)) hb); clear HO_3; clear HO_4; clear HL586_0; clear BK577; clear HR586_0; clear HB; have HO_3 := n0_; have HO_4 := n1_; have HL586_0 := n2_; have HO589 := n3_; have BK577 := n4_; have HR586_0 := n5_; have HB := n6_; clear n0_ n1_ n2_ n3_ n4_ n5_ n6_; clear hb ho23))
       (try simp only [Act.put, List.setIfInBounds_toArray, List.set_cons_zero, List.set_cons_succ])
       go_cut [] (fun wc => ∃ (kq : Nat) (x6_19 : List Int), As_ (w14_DagLast.j2 kq t579 y582 x5_1 x6_19 l0_0 a0_1 a0_2 a0_3 a0_4 a0_5 a0_6 l0_7 = some r) ∧ As_ (kq ≤ k1) ∧ As_ (Kd.N (Kd.slice 24 k24) 22 wc w.heap.size (fun k_ => some k_ ≠ (v583 : Value).ownBlock ∧ some k_ ≠ (v588 : Value).ownBlock ∧ k_ ≠ gb577) (.slice (some ad586) t579.length co21) t579) ∧ As_ (Kd.R k24 24 wc w.heap.size (fun _ => True) v583 y582) ∧ As_ (Kd.R (Kd.int .i64) 3 wc w.heap.size (fun _ => True) v588 x6_19) ∧ As_ (wc.heap[gb577]? = some (.cells #[(.slice A0_0 l0_0.length c0_0), .int .i64 a0_1, .int .i64 a0_2, .int .i64 a0_3, .int .i64 a0_4, .int .i64 a0_5, .string a0_6, (.slice A0_7 l0_7.length c0_7)] 27 (0, 0))) ∧ As_ (Below w.heap.size w wc))
       case first =>
        have H := HC20.out
        clear HC20
        have H' := As_.mk H
        clear H
        go_wp2
        go_loopg [7] k1 (fun kq v7 w' => ∃ (x6_2 : List Int) (x7_2 : Int), v7 = .int .i64 x7_2 ∧ As_ (w14_DagLast.l1 kq t579 y582 x5_1 x6_2 x7_2 l0_0 a0_1 a0_2 a0_3 a0_4 a0_5 a0_6 l0_7 = some r) ∧ As_ (kq ≤ k1) ∧ As_ (Kd.N (Kd.slice 24 k24) 22 w' w.heap.size (fun k_ => some k_ ≠ (v583 : Value).ownBlock ∧ some k_ ≠ (v588 : Value).ownBlock ∧ k_ ≠ gb577) (.slice (some ad586) t579.length co21) t579) ∧ As_ (Kd.R k24 24 w' w.heap.size (fun _ => True) v583 y582) ∧ As_ (Kd.R (Kd.int .i64) 3 w' w.heap.size (fun _ => True) v588 x6_2) ∧ As_ (w'.heap[gb577]? = some (.cells #[(.slice A0_0 l0_0.length c0_0), .int .i64 a0_1, .int .i64 a0_2, .int .i64 a0_3, .int .i64 a0_4, .int .i64 a0_5, .string a0_6, (.slice A0_7 l0_7.length c0_7)] 27 (0, 0))) ∧ As_ (Below w.heap.size w w'))
        case atStart => exact ⟨(y587), (0), (by first | rfl | (simp; done) | (simp [*]; done) | (simp [wrap64]; done) | (congr 1; rw [Bool.eq_iff_iff]; simp; done)), H', ⟨Nat.le_refl _⟩, ⟨by (with_reducible repeat (first | apply Kd.N_alloc | apply Kd.N_drewN | apply Kd.N_drew)); exact Kd.N_mono HO_3.out (fun _ hk => ⟨hk.1.1, ⟨hk.2, hk.1.2⟩⟩)⟩, ⟨by (with_reducible repeat (first | apply Kd.R_alloc | apply Kd.R_drewN | apply Kd.R_drew)); exact HO_4.out⟩, ⟨by (with_reducible repeat (first | apply Kd.R_alloc | apply Kd.R_drewN | apply Kd.R_drew)); exact HO589.out⟩, ⟨by (with_reducible repeat (first | refine kN_ ?_ _ | refine kD_ ?_ | refine kA_ ?_ _)); exact BK577.out⟩, ⟨by repeat (first | (with_reducible first | exact HB.out | apply bA_ | apply bN_ | apply b1_ | refine bS_ ?_ GE577.out) | exact HB.out)⟩⟩
        case round =>
         clear H'
         obtain ⟨x6_2, x7_2, rfl, HA, HK2, HO_3, HO_4, HO_6, BK577, HB⟩ := hrel
         cases gk with
         | zero => exact absurd HA.out (by simp [w14_DagLast.l1])
         | succ k2 =>
          have H := HA.out
          clear HA
          simp only [w14_DagLast.l1] at H
          by_cases c24 : x7_2 < (x6_2.length : Int)
          ·rw [if_pos c24] at H
           have c24b0 : decide (x7_2 < (x6_2.length : Int)) = true := decide_eq_true c24
           clear c24
           (first | rw [c24b0] | (simp only [i64_w, i32_w]; rw [c24b0]) | skip)
           by_cases c25 : (l0_7.length : Int) > 0
           ·rw [if_pos c25] at H
            have c25b0 : decide (0 < (l0_7.length : Int)) = true := decide_eq_true c25
            have c25b1 : decide (0 < l0_7.length) = true := decide_eq_true (by omega)
            clear c25
            by_cases c26 : (l0_7.length : Int) = 0
            ·rw [if_pos c26] at H
             exact absurd H (by simp)
            rw [if_neg c26] at H
            have c26b0 : ((l0_7.length : Int) == 0) = false := beq_eq_false_iff_ne.mpr c26
            have c26b1 : ((l0_7.length : Int) != 0) = true := bne_iff_ne.mpr c26
            have c26b2 : ¬ (l0_7 = []) := fun h_ => c26 (by rw [h_]; rfl)
            obtain ⟨ji27, hji27⟩ : ∃ j_ : Int, (Int.tmod x7_2 (l0_7.length : Int)) = j_ := ⟨_, rfl⟩
            replace H : (if 0 ≤ (ji27) then (if (ji27) < (l0_7.length : Int) then (if 0 ≤ x7_2 then (w14_DagLast.l1 k2 t579 y582 x5_1 (x6_2.set (x7_2 : Int).toNat (rd l0_7 (ji27))) (wrap64 (x7_2 + 1)) l0_0 a0_1 a0_2 a0_3 a0_4 a0_5 a0_6 l0_7) else (none)) else (none)) else (none)) = some r := by first | (rw [hji27] at H; exact H) | (simp only [hji27] at H ⊢; exact H)
            by_cases c28 : 0 ≤ (ji27)
            ·rw [if_pos c28] at H
             have c28b0 : decide (0 ≤ (ji27)) = true := decide_eq_true c28
             clear c28
             by_cases c29 : (ji27) < (l0_7.length : Int)
             ·rw [if_pos c29] at H
              have c29b0 : decide ((ji27) < (l0_7.length : Int)) = true := decide_eq_true c29
              clear c29
              by_cases c30 : 0 ≤ x7_2
              ·rw [if_pos c30] at H
               have c30b0 : decide (0 ≤ x7_2) = true := decide_eq_true c30
               clear c30
               obtain ⟨y591, hy591⟩ : ∃ y_ : List Int, y_ = (x6_2.set (x7_2 : Int).toNat (rd l0_7 (ji27))) := ⟨_, rfl⟩
               replace H : (w14_DagLast.l1 k2 t579 y582 x5_1 y591 (wrap64 (x7_2 + 1)) l0_0 a0_1 a0_2 a0_3 a0_4 a0_5 a0_6 l0_7) = some r := by first | (rw [hy591]; with_reducible exact H) | (have H2_ := (Option.bind_some _ _).symm.trans H; rw [hy591]; with_reducible exact H2_) | (have H2_ := (Option.bind_some _ _).symm.trans H; with_reducible exact H2_) | with_reducible exact H | (rw [hy591]; exact H) | exact H
               have Ny591 := As_.mk hy591
               clear hy591
               have H' := As_.mk H
               clear H
               obtain ⟨Ao32, co32, eo32⟩ := Kd.R_slice HO_6.out
               subst eo32
               have hcz33_0 : wr.cell? ⟨gb577, 0, none⟩ = some (.slice A0_0 l0_0.length c0_0) := (bC_ BK577.out 0).trans rfl
               have hcz33_1 : wr.cell? ⟨gb577, 1, none⟩ = some (.int .i64 a0_1) := (bC_ BK577.out 1).trans rfl
               have hcz33_2 : wr.cell? ⟨gb577, 2, none⟩ = some (.int .i64 a0_2) := (bC_ BK577.out 2).trans rfl
               have hcz33_3 : wr.cell? ⟨gb577, 3, none⟩ = some (.int .i64 a0_3) := (bC_ BK577.out 3).trans rfl
               have hcz33_4 : wr.cell? ⟨gb577, 4, none⟩ = some (.int .i64 a0_4) := (bC_ BK577.out 4).trans rfl
               have hcz33_5 : wr.cell? ⟨gb577, 5, none⟩ = some (.int .i64 a0_5) := (bC_ BK577.out 5).trans rfl
               have hcz33_6 : wr.cell? ⟨gb577, 6, none⟩ = some (.string a0_6) := (bC_ BK577.out 6).trans rfl
               have hcz33_7 : wr.cell? ⟨gb577, 7, none⟩ = some (.slice A0_7 l0_7.length c0_7) := (bC_ BK577.out 7).trans rfl
               have hfz33_0 := bZ_ BK577.out 0
               have hfz33_1 := bZ_ BK577.out 1
               have hfz33_2 := bZ_ BK577.out 2
               have hfz33_3 := bZ_ BK577.out 3
               have hfz33_4 := bZ_ BK577.out 4
               have hfz33_5 := bZ_ BK577.out 5
               have hfz33_6 := bZ_ BK577.out 6
               have hfz33_7 := bZ_ BK577.out 7
               try go_wp2
               have n0_ := As_.mk (Kd.N_drew HO_3.out)
               have n1_ := As_.mk (Kd.R_drew HO_4.out)
               have n2_ := As_.mk (Kd.R_drew HO_6.out)
               have n3_ := As_.mk (kD_ BK577.out)
               have n4_ := As_.mk (b1_ HB.out)
               clear HO_3
               clear HO_4
               clear HO_6
               clear BK577
               clear HB
               have HO_3 := n0_
               have HO_4 := n1_
               have HO_6 := n2_
               have BK577 := n3_
               have HB := n4_
               clear n0_ n1_ n2_ n3_ n4_
               have p590 : 0 ≤ ((ji27) : Int) := of_decide_eq_true (by assumption)
               have q590 : (ji27) < (l0_7.length : Int) := of_decide_eq_true (by assumption)
               obtain ⟨ad590, e590, hx590_0⟩ := Kd.at_int HR0_7.out (ji27) p590 q590
               have hw590_0 := hx590_0
               cases e590
               replace hx590_0 := (HB.out.cell (World.block_lt_of_cell? w _ hx590_0)).trans hx590_0
               replace p590 := eq_true p590
               replace q590 := eq_true q590
               have p31 : 0 ≤ (x7_2 : Int) := of_decide_eq_true (by assumption)
               have q31 : (x7_2 : Int) < ((x6_2.length : Int) : Int) := of_decide_eq_true (by assumption)
               obtain ⟨go31, co31, eo31, gb31, gl31, cl31, HG31⟩ := Kd.R_form HO_6.out (by omega)
               (first | cases eo31 | (injection eo31 with ea_ en_ ec_; (first | subst ea_ | (injection ea_ with ea_; subst ea_)); subst ec_; clear en_))
               have GB31 := As_.mk gb31
               have GG31 := As_.mk HG31
               clear gb31 gl31 HG31
               obtain ⟨hx31_0, hf31_0⟩ := Kd.R_celln 0 HO_6.out (x7_2 : Int) p31 q31
               replace p31 := eq_true p31
               replace q31 := eq_true q31
               have HP35 := Kd.R_putn HO_6.out (x7_2 : Int) (rd l0_7 (ji27))
               rw [← Ny591.out] at HP35
               have HQ35 := As_.mk HP35
               clear HP35
               refine start_ (n := 13) (S := fun w' => w'.cell? ⟨gb577, 0, none⟩ = some (.slice A0_0 l0_0.length c0_0) ∧ w'.cell? ⟨gb577, 1, none⟩ = some (.int .i64 a0_1) ∧ w'.cell? ⟨gb577, 2, none⟩ = some (.int .i64 a0_2) ∧ w'.cell? ⟨gb577, 3, none⟩ = some (.int .i64 a0_3) ∧ w'.cell? ⟨gb577, 4, none⟩ = some (.int .i64 a0_4) ∧ w'.cell? ⟨gb577, 5, none⟩ = some (.int .i64 a0_5) ∧ w'.cell? ⟨gb577, 6, none⟩ = some (.string a0_6) ∧ w'.cell? ⟨gb577, 7, none⟩ = some (.slice (some ad590) l0_7.length c0_7) ∧ w'.cell? (ad590.add ((ji27)).toNat) = some (.int .i64 (rd l0_7 (ji27)))) (ds := [12]) #[false, false, false, false, false, false, false, false, false, false, false, false, false] (by kernel_rfl) rfl (by kernel_rfl) ⟨(bC_ BK577.out 0).trans rfl, (bC_ BK577.out 1).trans rfl, (bC_ BK577.out 2).trans rfl, (bC_ BK577.out 3).trans rfl, (bC_ BK577.out 4).trans rfl, (bC_ BK577.out 5).trans rfl, (bC_ BK577.out 6).trans rfl, (bC_ BK577.out 7).trans rfl, ((HB.out.cell (World.block_lt_of_cell? w _ hw590_0)).trans hw590_0)⟩ (fun hHeld => ?_); refine with_tabW w14_DagLast.tab12 w14_DagLast.bits12 (fun HT_ HW_ => ?_)
               generalize wr.drew = w34 at HO_3 HO_4 HO_6 BK577 HB GG31 HQ35 hf31_0 hx31_0 hx590_0 hHeld ⊢
               refine pure_ (i := 0) (N := some 55) (v := ?_) (a' := ?_) #[true, false, false, false, false, false, false, false, false, false, false, false, false] rfl rfl (any_of HT_.out (by kernel_rfl)) (fun _ _ _ h => h) (Or.inl ⟨by rfl, ?_⟩) ?_ ?_
               rotate_left
               ·intro w'
                go_simp
                with_reducible rfl
               rotate_left
               ·simp only [Act.put, List.setIfInBounds_toArray, List.set_cons_zero, List.set_cons_succ, i64_w, i32_w]
                rfl
               refine pure_ (i := 1) (N := some 56) (v := ?_) (a' := ?_) #[true, true, false, false, false, false, false, false, false, false, false, false, false] rfl rfl (any_of HT_.out (by kernel_rfl)) (fun _ _ _ h => h) (Or.inl ⟨by rfl, ?_⟩) ?_ ?_
               rotate_left
               ·intro w'
                go_simp
                with_reducible rfl
               rotate_left
               ·simp only [Act.put, List.setIfInBounds_toArray, List.set_cons_zero, List.set_cons_succ, i64_w, i32_w]
                rfl
               refine pure_ (i := 2) (N := some 57) (v := ?_) (a' := ?_) #[true, true, true, false, false, false, false, false, false, false, false, false, false] rfl rfl (any_of HT_.out (by kernel_rfl)) (fun _ _ _ h => h) (Or.inl ⟨by rfl, ?_⟩) ?_ ?_
               rotate_left
               ·intro w'
                go_simp
                with_reducible rfl
               rotate_left
               ·simp only [Act.put, List.setIfInBounds_toArray, List.set_cons_zero, List.set_cons_succ, i64_w, i32_w]
                rfl
               refine pure_ (i := 4) (N := some 59) (v := ?_) (a' := ?_) #[true, true, true, false, true, false, false, false, false, false, false, false, false] rfl rfl (any_of HT_.out (by kernel_rfl)) (fun _ _ _ h => h) (Or.inl ⟨by rfl, ?_⟩) ?_ ?_
               rotate_left
               ·intro w'
                go_simp
                with_reducible rfl
               rotate_left
               ·simp only [Act.put, List.setIfInBounds_toArray, List.set_cons_zero, List.set_cons_succ, i64_w, i32_w]
                rfl
               refine pure_ (i := 5) (N := some 60) (v := ?_) (a' := ?_) #[true, true, true, false, true, true, false, false, false, false, false, false, false] rfl rfl (any_of HT_.out (by kernel_rfl)) (fun _ _ _ h => h) (Or.inl ⟨by rfl, ?_⟩) ?_ ?_
               rotate_left
               ·intro w'
                go_simp
                with_reducible rfl
               rotate_left
               ·simp only [Act.put, List.setIfInBounds_toArray, List.set_cons_zero, List.set_cons_succ, i64_w, i32_w]
                rfl
               refine take_ (i := 3) (N := some 58) (v := ?_) (a' := ?_) #[true, true, true, true, true, true, false, false, false, false, false, false, false] rfl rfl (take_ofW HT_.out HW_.out (by kernel_rfl)) (fun _ _ _ h => h) (Or.inl ⟨by rfl, ?_⟩) hHeld ?_ ?_
               rotate_left
               ·rintro w' ⟨s0, s1, s2, s3, s4, s5, s6, s7, s8⟩
                go_simp
                with_reducible rfl
               rotate_left
               ·simp only [Act.put, List.setIfInBounds_toArray, List.set_cons_zero, List.set_cons_succ, i64_w, i32_w]
                rfl
               refine take_ (i := 6) (N := some 61) (v := ?_) (a' := ?_) #[true, true, true, true, true, true, true, false, false, false, false, false, false] rfl rfl (take_ofW HT_.out HW_.out (by kernel_rfl)) (fun _ _ _ h => h) (Or.inl ⟨by rfl, ?_⟩) hHeld ?_ ?_
               rotate_left
               ·rintro w' ⟨s0, s1, s2, s3, s4, s5, s6, s7, s8⟩
                go_simp
                with_reducible rfl
               rotate_left
               ·simp only [Act.put, List.setIfInBounds_toArray, List.set_cons_zero, List.set_cons_succ, i64_w, i32_w]
                rfl
               refine pure_ (i := 7) (N := some 62) (v := ?_) (a' := ?_) #[true, true, true, true, true, true, true, true, false, false, false, false, false] rfl rfl (any_of HT_.out (by kernel_rfl)) (fun _ _ _ h => h) (Or.inl ⟨by rfl, ?_⟩) ?_ ?_
               rotate_left
               ·intro w'
                go_simp
                with_reducible rfl
               rotate_left
               ·simp only [Act.put, List.setIfInBounds_toArray, List.set_cons_zero, List.set_cons_succ, i64_w, i32_w]
                rfl
               refine pure_ (i := 8) (N := some 63) (v := ?_) (a' := ?_) #[true, true, true, true, true, true, true, true, true, false, false, false, false] rfl rfl (any_of HT_.out (by kernel_rfl)) (fun _ _ _ h => h) (Or.inl ⟨by rfl, ?_⟩) ?_ ?_
               rotate_left
               ·intro w'
                go_simp
                with_reducible rfl
               rotate_left
               ·simp only [Act.put, List.setIfInBounds_toArray, List.set_cons_zero, List.set_cons_succ, i64_w, i32_w]
                rfl
               refine pure_ (i := 9) (N := some 64) (v := ?_) (a' := ?_) #[true, true, true, true, true, true, true, true, true, true, false, false, false] rfl rfl (any_of HT_.out (by kernel_rfl)) (fun _ _ _ h => h) (Or.inl ⟨by rfl, ?_⟩) ?_ ?_
               rotate_left
               ·intro w'
                go_simp
                with_reducible rfl
               rotate_left
               ·simp only [Act.put, List.setIfInBounds_toArray, List.set_cons_zero, List.set_cons_succ, i64_w, i32_w]
                rfl
               refine take_ (i := 10) (N := some 65) (v := ?_) (a' := ?_) #[true, true, true, true, true, true, true, true, true, true, true, false, false] rfl rfl (take_ofW HT_.out HW_.out (by kernel_rfl)) (fun _ _ _ h => h) (Or.inl ⟨by rfl, ?_⟩) hHeld ?_ ?_
               rotate_left
               ·rintro w' ⟨s0, s1, s2, s3, s4, s5, s6, s7, s8⟩
                go_simp
                with_reducible rfl
               rotate_left
               ·simp only [Act.put, List.setIfInBounds_toArray, List.set_cons_zero, List.set_cons_succ, i64_w, i32_w]
                rfl
               refine pure_ (i := 11) (N := some 66) (v := ?_) (a' := ?_) #[true, true, true, true, true, true, true, true, true, true, true, true, false] rfl rfl (any_of HT_.out (by kernel_rfl)) (fun _ _ _ h => h) (Or.inl ⟨by rfl, ?_⟩) ?_ ?_
               rotate_left
               ·intro w'
                go_simp
                with_reducible rfl
               rotate_left
               ·simp only [Act.put, List.setIfInBounds_toArray, List.set_cons_zero, List.set_cons_succ, i64_w, i32_w]
                rfl
               refine last_ (i := 12) (N := none) #[true, true, true, true, true, true, true, true, true, true, true, true, true] rfl rfl (one_of HT_.out (by kernel_rfl)) (by decide) (fun K hK => ?_)
               refine skip_ (w1 := ?_) (by rfl) rfl ?_ ?_
               rotate_left
               ·go_simp
                rfl
               refine hK.out _ _ ?_
               clear hK K
               refine done_ (done_of HT_.out (by kernel_rfl)) ?_
               try go_wp2
               go_roundg k2
               case measure => have := HK1.out; have := HK2.out; omega
               case rel => exact ⟨(y591), (wrap64 (x7_2 + 1)), (by first | rfl | (simp; done) | (simp [*]; done) | (simp [wrap64]; done) | (congr 1; rw [Bool.eq_iff_iff]; simp; done)), H', ⟨by have := HK1.out; have := HK2.out; omega⟩, ⟨by (with_reducible repeat (first | apply Kd.N_alloc | apply Kd.N_drewN | apply Kd.N_drew)); exact Kd.N_mono (Kd.N_far (p := ⟨go31, (x7_2 : Int).toNat, none⟩) (Kd.N_mono HO_3.out (fun k_ hk => (⟨hk, fun e_ => hk.2.1 (by rw [e_]; rfl)⟩ : _ ∧ k_ ≠ go31))) (fun _ hk => hk.2) (.int .i64 (rd l0_7 (ji27)))) (fun _ hk => ⟨hk.1.1, ⟨hk.1.2.1, hk.1.2.2⟩⟩)⟩, ⟨by (with_reducible repeat (first | apply Kd.R_alloc | apply Kd.R_drewN | apply Kd.R_drew)); exact Kd.R_mono (Kd.R_far (p := ⟨go31, (x7_2 : Int).toNat, none⟩) (Kd.R_types HO_4.out GG31.out (by decide)) (fun _ hk => hk.2) (.int .i64 (rd l0_7 (ji27)))) (fun _ hk => trivial)⟩, ⟨by (with_reducible repeat (first | apply Kd.R_alloc | apply Kd.R_drewN | apply Kd.R_drew)); exact HQ35.out⟩, ⟨by (with_reducible repeat (first | refine kN_ ?_ _ | refine kD_ ?_ | refine kA_ ?_ _)); refine blk_far ?_ (by have h_ := Kd.R_ne HO_6.out BK577.out (by decide); intro e_; exact h_ (by rw [e_]; rfl)) _; (with_reducible repeat (first | refine kN_ ?_ _ | refine kD_ ?_ | refine kA_ ?_ _)); exact BK577.out⟩, ⟨by repeat (first | (with_reducible first | exact HB.out | apply bA_ | apply bN_ | apply b1_ | refine bS_ ?_ GB31.out | refine bS_ ?_ GE577.out) | exact HB.out)⟩⟩
              rw [if_neg c30] at H
              exact absurd H (by simp)
             rw [if_neg c29] at H
             exact absurd H (by simp)
            rw [if_neg c28] at H
            exact absurd H (by simp)
           rw [if_neg c25] at H
           have c25b0 : decide (0 < (l0_7.length : Int)) = false := decide_eq_false c25
           have c25b1 : decide (0 < l0_7.length) = false := decide_eq_false (by omega)
           clear c25
           have H' := As_.mk H
           clear H
           obtain ⟨Ao36, co36, eo36⟩ := Kd.R_slice HO_6.out
           subst eo36
           have hcz37_0 : wr.cell? ⟨gb577, 0, none⟩ = some (.slice A0_0 l0_0.length c0_0) := (bC_ BK577.out 0).trans rfl
           have hcz37_1 : wr.cell? ⟨gb577, 1, none⟩ = some (.int .i64 a0_1) := (bC_ BK577.out 1).trans rfl
           have hcz37_2 : wr.cell? ⟨gb577, 2, none⟩ = some (.int .i64 a0_2) := (bC_ BK577.out 2).trans rfl
           have hcz37_3 : wr.cell? ⟨gb577, 3, none⟩ = some (.int .i64 a0_3) := (bC_ BK577.out 3).trans rfl
           have hcz37_4 : wr.cell? ⟨gb577, 4, none⟩ = some (.int .i64 a0_4) := (bC_ BK577.out 4).trans rfl
           have hcz37_5 : wr.cell? ⟨gb577, 5, none⟩ = some (.int .i64 a0_5) := (bC_ BK577.out 5).trans rfl
           have hcz37_6 : wr.cell? ⟨gb577, 6, none⟩ = some (.string a0_6) := (bC_ BK577.out 6).trans rfl
           have hcz37_7 : wr.cell? ⟨gb577, 7, none⟩ = some (.slice A0_7 l0_7.length c0_7) := (bC_ BK577.out 7).trans rfl
           have hfz37_0 := bZ_ BK577.out 0
           have hfz37_1 := bZ_ BK577.out 1
           have hfz37_2 := bZ_ BK577.out 2
           have hfz37_3 := bZ_ BK577.out 3
           have hfz37_4 := bZ_ BK577.out 4
           have hfz37_5 := bZ_ BK577.out 5
           have hfz37_6 := bZ_ BK577.out 6
           have hfz37_7 := bZ_ BK577.out 7
           go_wp2
           go_meet
           case rel => exact ⟨_, (x6_2), H', ⟨by have := HK1.out; have := HK2.out; first | omega | exact Nat.le_refl _⟩, ⟨by (with_reducible repeat (first | apply Kd.N_alloc | apply Kd.N_drewN | apply Kd.N_drew)); exact HO_3.out⟩, ⟨by (with_reducible repeat (first | apply Kd.R_alloc | apply Kd.R_drewN | apply Kd.R_drew)); exact HO_4.out⟩, ⟨by (with_reducible repeat (first | apply Kd.R_alloc | apply Kd.R_drewN | apply Kd.R_drew)); exact HO_6.out⟩, ⟨by (with_reducible repeat (first | refine kN_ ?_ _ | refine kD_ ?_ | refine kA_ ?_ _)); exact BK577.out⟩, ⟨by repeat (first | (with_reducible first | exact HB.out | apply bA_ | apply bN_ | apply b1_ | refine bS_ ?_ GE577.out) | exact HB.out)⟩⟩
          rw [if_neg c24] at H
          have c24b0 : decide (x7_2 < (x6_2.length : Int)) = false := decide_eq_false c24
          clear c24
          (first | rw [c24b0] | (simp only [i64_w, i32_w]; rw [c24b0]) | skip)
          have H' := As_.mk H
          clear H
          obtain ⟨Ao38, co38, eo38⟩ := Kd.R_slice HO_6.out
          subst eo38
          go_wp2
          go_meet
          case rel => exact ⟨_, (x6_2), H', ⟨by have := HK1.out; have := HK2.out; first | omega | exact Nat.le_refl _⟩, ⟨by (with_reducible repeat (first | apply Kd.N_alloc | apply Kd.N_drewN | apply Kd.N_drew)); exact HO_3.out⟩, ⟨by (with_reducible repeat (first | apply Kd.R_alloc | apply Kd.R_drewN | apply Kd.R_drew)); exact HO_4.out⟩, ⟨by (with_reducible repeat (first | apply Kd.R_alloc | apply Kd.R_drewN | apply Kd.R_drew)); exact HO_6.out⟩, ⟨by (with_reducible repeat (first | refine kN_ ?_ _ | refine kD_ ?_ | refine kA_ ?_ _)); exact BK577.out⟩, ⟨by repeat (first | (with_reducible first | exact HB.out | apply bA_ | apply bN_ | apply b1_ | refine bS_ ?_ GE577.out) | exact HB.out)⟩⟩
       case rest =>
        clear HC20
        obtain ⟨kq, x6_19, HA, HJ19, HO_3, HO_4, HO_6, BK577, HB⟩ := hcut
        cases kq with
        | zero => exact absurd HA.out (by simp [w14_DagLast.j2])
        | succ kj19 =>
         have H := HA.out
         clear HA
         simp only [w14_DagLast.j2] at H
         have H' := As_.mk H
         clear H
         go_wp2
         go_loopg [8] kj19 (fun kq v8 w' => ∃ (x8_3 : Int), v8 = .int .i64 x8_3 ∧ As_ (w14_DagLast.l2 kq t579 y582 x5_1 x6_19 x8_3 l0_0 a0_1 a0_2 a0_3 a0_4 a0_5 a0_6 l0_7 = some r) ∧ As_ (kq ≤ kj19) ∧ As_ (Kd.N (Kd.slice 24 k24) 22 w' w.heap.size (fun k_ => some k_ ≠ (v583 : Value).ownBlock ∧ some k_ ≠ (v588 : Value).ownBlock ∧ k_ ≠ gb577) (.slice (some ad586) t579.length co21) t579) ∧ As_ (Kd.R k24 24 w' w.heap.size (fun _ => True) v583 y582) ∧ As_ (Kd.R (Kd.int .i64) 3 w' w.heap.size (fun _ => True) v588 x6_19) ∧ As_ (w'.heap[gb577]? = some (.cells #[(.slice A0_0 l0_0.length c0_0), .int .i64 a0_1, .int .i64 a0_2, .int .i64 a0_3, .int .i64 a0_4, .int .i64 a0_5, .string a0_6, (.slice A0_7 l0_7.length c0_7)] 27 (0, 0))) ∧ As_ (Below w.heap.size w w'))
         case atStart => exact ⟨(0), (by first | rfl | (simp; done) | (simp [*]; done) | (simp [wrap64]; done) | (congr 1; rw [Bool.eq_iff_iff]; simp; done)), H', ⟨Nat.le_refl _⟩, ⟨by (with_reducible repeat (first | apply Kd.N_alloc | apply Kd.N_drewN | apply Kd.N_drew)); exact HO_3.out⟩, ⟨by (with_reducible repeat (first | apply Kd.R_alloc | apply Kd.R_drewN | apply Kd.R_drew)); exact HO_4.out⟩, ⟨by (with_reducible repeat (first | apply Kd.R_alloc | apply Kd.R_drewN | apply Kd.R_drew)); exact HO_6.out⟩, ⟨by (with_reducible repeat (first | refine kN_ ?_ _ | refine kD_ ?_ | refine kA_ ?_ _)); exact BK577.out⟩, ⟨by repeat (first | (with_reducible first | exact HB.out | apply bA_ | apply bN_ | apply b1_ | refine bS_ ?_ GE577.out) | exact HB.out)⟩⟩
         case round =>
          clear H'
          obtain ⟨x8_3, rfl, HA, HK3, HO_3, HO_4, HO_6, BK577, HB⟩ := hrel
          cases gk with
          | zero => exact absurd HA.out (by simp [w14_DagLast.l2])
          | succ k3 =>
           have H := HA.out
           clear HA
           simp only [w14_DagLast.l2] at H
           by_cases c39 : x8_3 < (y582.length : Int)
           ·rw [if_pos c39] at H
            have c39b0 : decide (x8_3 < (y582.length : Int)) = true := decide_eq_true c39
            clear c39
            replace H := Option.bind_eq_some_iff.mp H
            obtain ⟨t592, A400, H⟩ := H
            replace H : (if 0 ≤ x5_1 then (if x5_1 < (t579.length : Int) then (if 0 ≤ x8_3 then ((dag_Last.f k3 (rd_L5 t579 x5_1) ((q24 y582 x8_3).f0) ((q24 y582 x8_3).f1) ((q24 y582 x8_3).f2) ((q24 y582 x8_3).f3) ((q24 y582 x8_3).f4) ((q24 y582 x8_3).f5) t592).bind fun bt597 => ((r13_Straight.f k3 (rd_L5 t579 x5_1)).bind fun t600 => (if t600 = true then ((r3_Ins.f k3 ((q24 y582 x8_3).f0) ((q24 y582 x8_3).f1) ((q24 y582 x8_3).f2) ((q24 y582 x8_3).f3) ((q24 y582 x8_3).f4) ((q24 y582 x8_3).f5)).bind fun t602 => (if t602 = true then ((r3_Ends.f ((q24 y582 x8_3).f0)).bind fun t604 => (if t604 = true then (w14_DagLast.j4 k3 t579 y582 x5_1 x6_19 x8_3 t592 bt597.1 bt597.2 true l0_0 a0_1 a0_2 a0_3 a0_4 a0_5 a0_6 l0_7) else (w14_DagLast.j4 k3 t579 y582 x5_1 x6_19 x8_3 t592 bt597.1 bt597.2 (((q24 y582 x8_3).f0) == 0) l0_0 a0_1 a0_2 a0_3 a0_4 a0_5 a0_6 l0_7))) else (w14_DagLast.j4 k3 t579 y582 x5_1 x6_19 x8_3 t592 bt597.1 bt597.2 false l0_0 a0_1 a0_2 a0_3 a0_4 a0_5 a0_6 l0_7))) else (w14_DagLast.j4 k3 t579 y582 x5_1 x6_19 x8_3 t592 bt597.1 bt597.2 false l0_0 a0_1 a0_2 a0_3 a0_4 a0_5 a0_6 l0_7)))) else (none)) else (none)) else (none)) = some r := H
            have A40 := As_.mk A400
            clear A400
            by_cases c41 : 0 ≤ x5_1
            ·rw [if_pos c41] at H
             have c41b0 : decide (0 ≤ x5_1) = true := decide_eq_true c41
             clear c41
             by_cases c42 : x5_1 < (t579.length : Int)
             ·rw [if_pos c42] at H
              have c42b0 : decide (x5_1 < (t579.length : Int)) = true := decide_eq_true c42
              clear c42
              by_cases c43 : 0 ≤ x8_3
              ·rw [if_pos c43] at H
               have c43b0 : decide (0 ≤ x8_3) = true := decide_eq_true c43
               clear c43
               replace H := Option.bind_eq_some_iff.mp H
               obtain ⟨⟨t597, t598⟩, A440, H⟩ := H
               replace H : ((r13_Straight.f k3 (rd_L5 t579 x5_1)).bind fun t600 => (if t600 = true then ((r3_Ins.f k3 ((q24 y582 x8_3).f0) ((q24 y582 x8_3).f1) ((q24 y582 x8_3).f2) ((q24 y582 x8_3).f3) ((q24 y582 x8_3).f4) ((q24 y582 x8_3).f5)).bind fun t602 => (if t602 = true then ((r3_Ends.f ((q24 y582 x8_3).f0)).bind fun t604 => (if t604 = true then (w14_DagLast.j4 k3 t579 y582 x5_1 x6_19 x8_3 t592 t597 t598 true l0_0 a0_1 a0_2 a0_3 a0_4 a0_5 a0_6 l0_7) else (w14_DagLast.j4 k3 t579 y582 x5_1 x6_19 x8_3 t592 t597 t598 (((q24 y582 x8_3).f0) == 0) l0_0 a0_1 a0_2 a0_3 a0_4 a0_5 a0_6 l0_7))) else (w14_DagLast.j4 k3 t579 y582 x5_1 x6_19 x8_3 t592 t597 t598 false l0_0 a0_1 a0_2 a0_3 a0_4 a0_5 a0_6 l0_7))) else (w14_DagLast.j4 k3 t579 y582 x5_1 x6_19 x8_3 t592 t597 t598 false l0_0 a0_1 a0_2 a0_3 a0_4 a0_5 a0_6 l0_7))) = some r := H
               have A44 := As_.mk A440
               clear A440
               have HC45 := As_.mk H
               clear H
               obtain ⟨Ao46, co46, eo46⟩ := Kd.R_slice HO_4.out
               subst eo46
               obtain ⟨Ao47, co47, eo47⟩ := Kd.R_slice HO_6.out
               subst eo47
               try go_wp2_with (first | ((with_reducible refine gC_ (f := 37) rfl ?_); refine goesL_ (some 74) rfl rfl Try.func37 (by kernel_rfl) rfl #[.slice Ao47 x6_19.length co47] rfl (by (try simp only [List.map_toArray, List.map_cons, List.map_nil]); first | done | rfl) ?_; (with_reducible refine (r0_CopyNumbers.calls k3 _ _ x6_19 t592 _ ?side1 ?side2 A40.out).mono ?_); (case side1 => repeat (first | exact (Kd.R_reads' HO_6.out).2.2 | (with_reducible refine Kd.C_alloc ?_ _) | (with_reducible refine Kd.C_drewN ?_ _) | (with_reducible refine Kd.C_drew ?_))); (case side2 => exact (Kd.R_reads' HO_6.out).2.1); rintro e w48 ⟨v593, rfl, ho0, hb⟩; refine ⟨_, rfl, ?_⟩; have n0_ := As_.mk (Kd.N_elder' (by (with_reducible repeat (first | apply Kd.N_alloc | apply Kd.N_drewN | apply Kd.N_drew)); exact HO_3.out) (Kd.R_base ho0) hb); have n1_ := As_.mk (Kd.R_below (by (with_reducible repeat (first | apply Kd.R_alloc | apply Kd.R_drewN | apply Kd.R_drew)); exact HO_4.out) hb); have n2_ := As_.mk (Kd.R_elder' (by (with_reducible repeat (first | apply Kd.R_alloc | apply Kd.R_drewN | apply Kd.R_drew)); exact HO_6.out) (Kd.R_base ho0) hb); have n3_ := As_.mk (Kd.R_lower (Kd.R_new' ho0 (Kd.R_lt (by (with_reducible repeat (first | apply Kd.R_alloc | apply Kd.R_drewN | apply Kd.R_drew)); exact HO_6.out))) (bY_ (by repeat (first | (with_reducible first | exact HB.out | apply bA_ | apply bN_ | apply b1_ | refine bS_ ?_ GE577.out) | exact HB.out)))); have n4_ := As_.mk (kB_ (g := gb577) (o := .cells #[.slice A0_0 l0_0.length c0_0, .int .i64 a0_1, .int .i64 a0_2, .int .i64 a0_3, .int .i64 a0_4, .int .i64 a0_5, .string a0_6, .slice A0_7 l0_7.length c0_7] 27 (0, 0)) (by (with_reducible repeat (first | refine kN_ ?_ _ | refine kD_ ?_ | refine kA_ ?_ _)); exact BK577.out) hb); have n5_ := As_.mk (bT_ (by repeat (first | (with_reducible first | exact HB.out | apply bA_ | apply bN_ | apply b1_ | refine bS_ ?_ GE577.out) | exact HB.out)) hb); clear HO_3; clear HO_4; clear HO_6; clear BK577; clear HB; have HO_3 := n0_; have HO_4 := n1_; have HO_6 := n2_; have HO594 := n3_; have BK577 := n4_; have HB := n5_; clear n0_ n1_ n2_ n3_ n4_ n5_; (try clear ho0)))
               have n0_ := As_.mk (Kd.N_drew HO_3.out)
               have n1_ := As_.mk (Kd.R_drew HO_4.out)
               have n2_ := As_.mk (Kd.R_drew HO_6.out)
               have n3_ := As_.mk (Kd.R_drew HO594.out)
               have n4_ := As_.mk (kD_ BK577.out)
               have n5_ := As_.mk (b1_ HB.out)
               clear HO_3
               clear HO_4
               clear HO_6
               clear HO594
               clear BK577
               clear HB
               have HO_3 := n0_
               have HO_4 := n1_
               have HO_6 := n2_
               have HO594 := n3_
               have BK577 := n4_
               have HB := n5_
               clear n0_ n1_ n2_ n3_ n4_ n5_
               have p595 : 0 ≤ (x5_1 : Int) := of_decide_eq_true (by assumption)
               have q595 : x5_1 < (t579.length : Int) := of_decide_eq_true (by assumption)
               obtain ⟨ad595, A595_0, c595_0, e595, hx595_0, hl595_0, hi595_0⟩ := at_L5 (Kd.N_reads' HO_3.out).2.2 x5_1 p595 q595
               obtain rfl : ad586 = ad595 := (by injection e595)
               obtain ⟨ce595, hce595, hMe595, hcc595⟩ := Kd.N_get HO_3.out [] x5_1 p595 (by first | exact q595 | exact of_decide_eq_true (by assumption) | (have e_ := (Kd.N_reads' HO_3.out).1; omega))
               obtain ⟨ua595_0, uc595_0, rfl, ul595_0, ge595_0⟩ := Kd.FK_slice_open hMe595
               have hv595_0 := hcc595 0 _ rfl
               rw [Nat.add_zero, show ((Kd.slice 24 k24)).sz = 1 from rfl, Nat.mul_one] at hv595_0
               replace hv595_0 := Option.some.inj (hv595_0.symm.trans hx595_0)
               injection hv595_0 with hva_ hvn_ hvc_
               rw [hva_] at ge595_0
               rw [hvc_] at ul595_0
               have HL595_0 := As_.mk (show Kd.V k24 24 _ w.heap.size _ _ (rd_L5 t579 x5_1) from Kd.V_mk ul595_0 ge595_0)
               clear hva_ hvn_ hvc_ ge595_0 ul595_0
               clear hcc595 hce595
               have HR595_0 := As_.mk hi595_0
               have HC595_0 := As_.mk hl595_0
               clear hi595_0 hl595_0
               replace p595 := eq_true p595
               replace q595 := eq_true q595
               have p596 : 0 ≤ (x8_3 : Int) := of_decide_eq_true (by assumption)
               have q596 : x8_3 < (y582.length : Int) := of_decide_eq_true (by assumption)
               obtain ⟨ad596, e596, hx596_0, hx596_1, hx596_2, hx596_3, hx596_4, hx596_5⟩ := at_T24 (Kd.R_reads' HO_4.out).2.2 x8_3 p596 q596
               cases e596
               replace p596 := eq_true p596
               replace q596 := eq_true q596
               obtain ⟨Ao50, co50, eo50⟩ := Kd.R_slice HO594.out
               (first | subst eo50 | (injection eo50 with f1_ f2_ f3_; have f4_ := f1_.symm; have f5_ := f3_.symm; clear f1_ f2_ f3_; subst f4_; subst f5_))
               refine start_ (n := 15) (S := fun w' => w'.cell? (ad586.add (x5_1).toNat) = some (.slice A595_0 (rd_L5 t579 x5_1).length c595_0) ∧ w'.cell? (ad596.add ((x8_3).toNat * 6)) = some (.int .i64 ((q24 y582 x8_3).f0)) ∧ w'.cell? ⟨(ad596.add ((x8_3).toNat * 6)).block, (ad596.add ((x8_3).toNat * 6)).off + 1, none⟩ = some (.int .i64 ((q24 y582 x8_3).f1)) ∧ w'.cell? ⟨(ad596.add ((x8_3).toNat * 6)).block, (ad596.add ((x8_3).toNat * 6)).off + 2, none⟩ = some (.int .i64 ((q24 y582 x8_3).f2)) ∧ w'.cell? ⟨(ad596.add ((x8_3).toNat * 6)).block, (ad596.add ((x8_3).toNat * 6)).off + 3, none⟩ = some (.int .i64 ((q24 y582 x8_3).f3)) ∧ w'.cell? ⟨(ad596.add ((x8_3).toNat * 6)).block, (ad596.add ((x8_3).toNat * 6)).off + 4, none⟩ = some (.int .i64 ((q24 y582 x8_3).f4)) ∧ w'.cell? ⟨(ad596.add ((x8_3).toNat * 6)).block, (ad596.add ((x8_3).toNat * 6)).off + 5, none⟩ = some (.string ((q24 y582 x8_3).f5))) (ds := []) #[false, false, false, false, false, false, false, false, false, false, false, false, false, false, false] (by kernel_rfl) rfl (by kernel_rfl) ⟨hx595_0, hx596_0, hx596_1, hx596_2, hx596_3, hx596_4, hx596_5⟩ (fun hHeld => ?_); refine with_tabW w14_DagLast.tab17 w14_DagLast.bits17 (fun HT_ HW_ => ?_)
               generalize w48.drew = w49 at HO_3 HO_4 HO_6 HO594 BK577 HB HL595_0 HR595_0 hx595_0 hx596_0 hx596_1 hx596_2 hx596_3 hx596_4 hx596_5 hHeld ⊢
               refine pure_ (i := 0) (N := some 76) (v := ?_) (a' := ?_) #[true, false, false, false, false, false, false, false, false, false, false, false, false, false, false] rfl rfl (any_of HT_.out (by kernel_rfl)) (fun _ _ _ h => h) (Or.inl ⟨by rfl, ?_⟩) ?_ ?_
               rotate_left
               ·intro w'
                go_simp
                with_reducible rfl
               rotate_left
               ·simp only [Act.put, List.setIfInBounds_toArray, List.set_cons_zero, List.set_cons_succ, i64_w, i32_w]
                rfl
               refine pure_ (i := 1) (N := some 77) (v := ?_) (a' := ?_) #[true, true, false, false, false, false, false, false, false, false, false, false, false, false, false] rfl rfl (any_of HT_.out (by kernel_rfl)) (fun _ _ _ h => h) (Or.inl ⟨by rfl, ?_⟩) ?_ ?_
               rotate_left
               ·intro w'
                go_simp
                with_reducible rfl
               rotate_left
               ·simp only [Act.put, List.setIfInBounds_toArray, List.set_cons_zero, List.set_cons_succ, i64_w, i32_w]
                rfl
               refine pure_ (i := 2) (N := some 78) (v := ?_) (a' := ?_) #[true, true, true, false, false, false, false, false, false, false, false, false, false, false, false] rfl rfl (any_of HT_.out (by kernel_rfl)) (fun _ _ _ h => h) (Or.inl ⟨by rfl, ?_⟩) ?_ ?_
               rotate_left
               ·intro w'
                go_simp
                with_reducible rfl
               rotate_left
               ·simp only [Act.put, List.setIfInBounds_toArray, List.set_cons_zero, List.set_cons_succ, i64_w, i32_w]
                rfl
               refine pure_ (i := 4) (N := some 80) (v := ?_) (a' := ?_) #[true, true, true, false, true, false, false, false, false, false, false, false, false, false, false] rfl rfl (any_of HT_.out (by kernel_rfl)) (fun _ _ _ h => h) (Or.inl ⟨by rfl, ?_⟩) ?_ ?_
               rotate_left
               ·intro w'
                go_simp
                with_reducible rfl
               rotate_left
               ·simp only [Act.put, List.setIfInBounds_toArray, List.set_cons_zero, List.set_cons_succ, i64_w, i32_w]
                rfl
               refine pure_ (i := 5) (N := some 81) (v := ?_) (a' := ?_) #[true, true, true, false, true, true, false, false, false, false, false, false, false, false, false] rfl rfl (any_of HT_.out (by kernel_rfl)) (fun _ _ _ h => h) (Or.inl ⟨by rfl, ?_⟩) ?_ ?_
               rotate_left
               ·intro w'
                go_simp
                with_reducible rfl
               rotate_left
               ·simp only [Act.put, List.setIfInBounds_toArray, List.set_cons_zero, List.set_cons_succ, i64_w, i32_w]
                rfl
               refine pure_ (i := 6) (N := some 82) (v := ?_) (a' := ?_) #[true, true, true, false, true, true, true, false, false, false, false, false, false, false, false] rfl rfl (any_of HT_.out (by kernel_rfl)) (fun _ _ _ h => h) (Or.inl ⟨by rfl, ?_⟩) ?_ ?_
               rotate_left
               ·intro w'
                go_simp
                with_reducible rfl
               rotate_left
               ·simp only [Act.put, List.setIfInBounds_toArray, List.set_cons_zero, List.set_cons_succ, i64_w, i32_w]
                rfl
               refine pure_ (i := 8) (N := some 84) (v := ?_) (a' := ?_) #[true, true, true, false, true, true, true, false, true, false, false, false, false, false, false] rfl rfl (any_of HT_.out (by kernel_rfl)) (fun _ _ _ h => h) (Or.inl ⟨by rfl, ?_⟩) ?_ ?_
               rotate_left
               ·intro w'
                go_simp
                with_reducible rfl
               rotate_left
               ·simp only [Act.put, List.setIfInBounds_toArray, List.set_cons_zero, List.set_cons_succ, i64_w, i32_w]
                rfl
               refine take_ (i := 3) (N := some 79) (v := ?_) (a' := ?_) #[true, true, true, true, true, true, true, false, true, false, false, false, false, false, false] rfl rfl (take_ofW HT_.out HW_.out (by kernel_rfl)) (fun _ _ _ h => h) (Or.inl ⟨by rfl, ?_⟩) hHeld ?_ ?_
               rotate_left
               ·rintro w' ⟨s0, s1, s2, s3, s4, s5, s6⟩
                go_simp
                with_reducible rfl
               rotate_left
               ·simp only [Act.put, List.setIfInBounds_toArray, List.set_cons_zero, List.set_cons_succ, i64_w, i32_w]
                rfl
               refine take_ (i := 7) (N := some 83) (v := ?_) (a' := ?_) #[true, true, true, true, true, true, true, true, true, false, false, false, false, false, false] rfl rfl (take_ofW HT_.out HW_.out (by kernel_rfl)) (fun _ _ _ h => h) (Or.inl ⟨by rfl, ?_⟩) hHeld ?_ ?_
               rotate_left
               ·rintro w' ⟨s0, s1, s2, s3, s4, s5, s6⟩
                go_simp
                with_reducible rfl
               rotate_left
               ·simp only [Act.put, List.setIfInBounds_toArray, List.set_cons_zero, List.set_cons_succ, i64_w, i32_w]
                rfl
               refine one_ (i := 9) (N := some 85) #[true, true, true, true, true, true, true, true, true, true, false, false, false, false, false] rfl rfl (one_of HT_.out (by kernel_rfl)) (by decide) (fun K hK => ?_)
               refine goes_ Try.func38 (by kernel_rfl) rfl #[.slice A595_0 (rd_L5 t579 x5_1).length c595_0, .agg #[.int .i64 ((q24 y582 x8_3).f0), .int .i64 ((q24 y582 x8_3).f1), .int .i64 ((q24 y582 x8_3).f2), .int .i64 ((q24 y582 x8_3).f3), .int .i64 ((q24 y582 x8_3).f4), .string ((q24 y582 x8_3).f5)], .slice Ao50 t592.length co50] (by rfl) rfl rfl (by (try simp only [List.map_toArray, List.map_cons, List.map_nil]); first | done | rfl) ?_
               with_reducible refine (dag_Last.calls k3 _ _ (rd_L5 t579 x5_1) ((q24 y582 x8_3).f0) ((q24 y582 x8_3).f1) ((q24 y582 x8_3).f2) ((q24 y582 x8_3).f3) ((q24 y582 x8_3).f4) ((q24 y582 x8_3).f5) _ _ t592 t597 t598 _ ?side1 ?side2 ?side3 ?side4 A44.out).mono ?_
               (case side1 => repeat (first | exact (by repeat (first | (with_reducible exact HR595_0.out) | (with_reducible refine Kd.C_alloc ?_ _) | (with_reducible refine Kd.C_drewN ?_ _) | (with_reducible refine Kd.C_drew ?_) | exact HR595_0.out)) | (with_reducible refine Kd.C_alloc ?_ _) | (with_reducible refine Kd.C_drewN ?_ _) | (with_reducible refine Kd.C_drew ?_)))
               (case side2 => exact HC595_0.out)
               (case side3 => repeat (first | exact (Kd.R_reads' HO594.out).2.2 | (with_reducible refine Kd.C_alloc ?_ _) | (with_reducible refine Kd.C_drewN ?_ _) | (with_reducible refine Kd.C_drew ?_)))
               (case side4 => exact (Kd.R_reads' HO594.out).2.1)
               rintro e w51 ⟨rfl, hb⟩
               have HS0_ := (hb.cell (World.block_lt_of_cell? _ _ (hHeld.1))).trans (hHeld.1)
               have HS1_ := (hb.cell (World.block_lt_of_cell? _ _ (hHeld.2.1))).trans (hHeld.2.1)
               have HS2_ := (hb.cell (World.block_lt_of_cell? _ _ (hHeld.2.2.1))).trans (hHeld.2.2.1)
               have HS3_ := (hb.cell (World.block_lt_of_cell? _ _ (hHeld.2.2.2.1))).trans (hHeld.2.2.2.1)
               have HS4_ := (hb.cell (World.block_lt_of_cell? _ _ (hHeld.2.2.2.2.1))).trans (hHeld.2.2.2.2.1)
               have HS5_ := (hb.cell (World.block_lt_of_cell? _ _ (hHeld.2.2.2.2.2.1))).trans (hHeld.2.2.2.2.2.1)
               have HS6_ := (hb.cell (World.block_lt_of_cell? _ _ (hHeld.2.2.2.2.2.2))).trans (hHeld.2.2.2.2.2.2)
               refine ⟨_, rfl, ?_⟩
               have n0_ := As_.mk (Kd.N_below (by (with_reducible repeat (first | apply Kd.N_alloc | apply Kd.N_drewN | apply Kd.N_drew)); exact HO_3.out) hb)
               have n1_ := As_.mk (Kd.R_below (by (with_reducible repeat (first | apply Kd.R_alloc | apply Kd.R_drewN | apply Kd.R_drew)); exact HO_4.out) hb)
               have n2_ := As_.mk (Kd.R_below (by (with_reducible repeat (first | apply Kd.R_alloc | apply Kd.R_drewN | apply Kd.R_drew)); exact HO_6.out) hb)
               have n3_ := As_.mk (Kd.R_below (by (with_reducible repeat (first | apply Kd.R_alloc | apply Kd.R_drewN | apply Kd.R_drew)); exact HO594.out) hb)
               have n4_ := As_.mk (Kd.V_below (by (with_reducible repeat (first | apply Kd.V_alloc | apply Kd.V_drewN | apply Kd.V_drew)); exact HL595_0.out) hb)
               have n5_ := As_.mk (kB_ (g := gb577) (o := .cells #[.slice A0_0 l0_0.length c0_0, .int .i64 a0_1, .int .i64 a0_2, .int .i64 a0_3, .int .i64 a0_4, .int .i64 a0_5, .string a0_6, .slice A0_7 l0_7.length c0_7] 27 (0, 0)) (by (with_reducible repeat (first | refine kN_ ?_ _ | refine kD_ ?_ | refine kA_ ?_ _)); exact BK577.out) hb)
               have n6_ := As_.mk (Kd.C_below (by repeat (first | (with_reducible exact HR595_0.out) | (with_reducible refine Kd.C_alloc ?_ _) | (with_reducible refine Kd.C_drewN ?_ _) | (with_reducible refine Kd.C_drew ?_) | exact HR595_0.out)) hb)
               have n7_ := As_.mk (bT_ (by repeat (first | (with_reducible first | exact HB.out | apply bA_ | apply bN_ | apply b1_ | refine bS_ ?_ GE577.out) | exact HB.out)) hb)
               clear HO_3
               clear HO_4
               clear HO_6
               clear HO594
               clear HL595_0
               clear BK577
               clear HR595_0
               clear HB
               have HO_3 := n0_
               have HO_4 := n1_
               have HO_6 := n2_
               have HO594 := n3_
               have HL595_0 := n4_
               have BK577 := n5_
               have HR595_0 := n6_
               have HB := n7_
               clear n0_ n1_ n2_ n3_ n4_ n5_ n6_ n7_
               refine hK.out _ _ ⟨HS0_, HS1_, HS2_, HS3_, HS4_, HS5_, HS6_⟩ (fun hHeld => ?_)
               clear hK K
               refine norm_ (a' := ?_) ?_ ?_
               rotate_left
               ·show Act.put _ (some 85) _ = _
                simp only [Act.put, List.setIfInBounds_toArray, List.set_cons_zero, List.set_cons_succ, i64_w, i32_w]
                rfl
               refine pure_ (i := 10) (N := some 75) (v := ?_) (a' := ?_) #[true, true, true, true, true, true, true, true, true, true, true, false, false, false, false] rfl rfl (any_of HT_.out (by kernel_rfl)) (fun _ _ _ h => h) (Or.inl ⟨by rfl, ?_⟩) ?_ ?_
               rotate_left
               ·intro w'
                go_simp
                with_reducible rfl
               rotate_left
               ·simp only [Act.put, List.setIfInBounds_toArray, List.set_cons_zero, List.set_cons_succ, i64_w, i32_w]
                rfl
               refine pure_ (i := 11) (N := some 86) (v := ?_) (a' := ?_) #[true, true, true, true, true, true, true, true, true, true, true, true, false, false, false] rfl rfl (any_of HT_.out (by kernel_rfl)) (fun _ _ _ h => h) (Or.inl ⟨by rfl, ?_⟩) ?_ ?_
               rotate_left
               ·intro w'
                go_simp
                with_reducible rfl
               rotate_left
               ·simp only [Act.put, List.setIfInBounds_toArray, List.set_cons_zero, List.set_cons_succ, i64_w, i32_w]
                rfl
               refine pure_ (i := 12) (N := some 87) (v := ?_) (a' := ?_) #[true, true, true, true, true, true, true, true, true, true, true, true, true, false, false] rfl rfl (any_of HT_.out (by kernel_rfl)) (fun _ _ _ h => h) (Or.inl ⟨by rfl, ?_⟩) ?_ ?_
               rotate_left
               ·intro w'
                go_simp
                with_reducible rfl
               rotate_left
               ·simp only [Act.put, List.setIfInBounds_toArray, List.set_cons_zero, List.set_cons_succ, i64_w, i32_w]
                rfl
               refine pure_ (i := 13) (N := some 10) (v := ?_) (a' := ?_) #[true, true, true, true, true, true, true, true, true, true, true, true, true, true, false] rfl rfl (any_of HT_.out (by kernel_rfl)) (fun _ _ _ h => h) (Or.inl ⟨by rfl, ?_⟩) ?_ ?_
               rotate_left
               ·intro w'
                go_simp
                with_reducible rfl
               rotate_left
               ·simp only [Act.put, List.setIfInBounds_toArray, List.set_cons_zero, List.set_cons_succ, i64_w, i32_w]
                rfl
               refine pure_ (i := 14) (N := some 11) (v := ?_) (a' := ?_) #[true, true, true, true, true, true, true, true, true, true, true, true, true, true, true] rfl rfl (any_of HT_.out (by kernel_rfl)) (fun _ _ _ h => h) (Or.inl ⟨by rfl, ?_⟩) ?_ ?_
               rotate_left
               ·intro w'
                go_simp
                with_reducible rfl
               rotate_left
               ·simp only [Act.put, List.setIfInBounds_toArray, List.set_cons_zero, List.set_cons_succ, i64_w, i32_w]
                rfl
               refine done_ (done_of HT_.out (by kernel_rfl)) ?_
               go_upto_region 18 with (fail)
               go_cut [12] (fun v12 wc => ∃ (kq : Nat) (x12_44 : Bool), v12 = .bool x12_44 ∧ As_ (w14_DagLast.j4 kq t579 y582 x5_1 x6_19 x8_3 t592 t597 t598 x12_44 l0_0 a0_1 a0_2 a0_3 a0_4 a0_5 a0_6 l0_7 = some r) ∧ As_ (kq ≤ k3) ∧ As_ (Kd.N (Kd.slice 24 k24) 22 wc w.heap.size (fun k_ => some k_ ≠ ((.slice (some ad596) y582.length co46) : Value).ownBlock ∧ some k_ ≠ ((.slice Ao47 x6_19.length co47) : Value).ownBlock ∧ some k_ ≠ ((.slice Ao50 t592.length co50) : Value).ownBlock ∧ k_ ≠ gb577) (.slice (some ad586) t579.length co21) t579) ∧ As_ (Kd.R k24 24 wc w.heap.size (fun _ => True) (.slice (some ad596) y582.length co46) y582) ∧ As_ (Kd.R (Kd.int .i64) 3 wc w.heap.size (fun k_ => some k_ ≠ ((.slice Ao50 t592.length co50) : Value).ownBlock) (.slice Ao47 x6_19.length co47) x6_19) ∧ As_ (Kd.R (Kd.int .i64) 3 wc w.heap.size (fun k_ => some k_ ≠ ((.slice Ao47 x6_19.length co47) : Value).ownBlock) (.slice Ao50 t592.length co50) t592) ∧ As_ (wc.heap[gb577]? = some (.cells #[(.slice A0_0 l0_0.length c0_0), .int .i64 a0_1, .int .i64 a0_2, .int .i64 a0_3, .int .i64 a0_4, .int .i64 a0_5, .string a0_6, (.slice A0_7 l0_7.length c0_7)] 27 (0, 0))) ∧ As_ (Kd.C k24 wc A595_0 (rd_L5 t579 x5_1).length (rd_L5 t579 x5_1)) ∧ As_ (Below w.heap.size w wc))
               case first =>
                have H := HC45.out
                clear HC45
                replace H := Option.bind_eq_some_iff.mp H
                obtain ⟨t600, A520, H⟩ := H
                replace H : (if t600 = true then ((r3_Ins.f k3 ((q24 y582 x8_3).f0) ((q24 y582 x8_3).f1) ((q24 y582 x8_3).f2) ((q24 y582 x8_3).f3) ((q24 y582 x8_3).f4) ((q24 y582 x8_3).f5)).bind fun t602 => (if t602 = true then ((r3_Ends.f ((q24 y582 x8_3).f0)).bind fun t604 => (if t604 = true then (w14_DagLast.j4 k3 t579 y582 x5_1 x6_19 x8_3 t592 t597 t598 true l0_0 a0_1 a0_2 a0_3 a0_4 a0_5 a0_6 l0_7) else (w14_DagLast.j4 k3 t579 y582 x5_1 x6_19 x8_3 t592 t597 t598 (((q24 y582 x8_3).f0) == 0) l0_0 a0_1 a0_2 a0_3 a0_4 a0_5 a0_6 l0_7))) else (w14_DagLast.j4 k3 t579 y582 x5_1 x6_19 x8_3 t592 t597 t598 false l0_0 a0_1 a0_2 a0_3 a0_4 a0_5 a0_6 l0_7))) else (w14_DagLast.j4 k3 t579 y582 x5_1 x6_19 x8_3 t592 t597 t598 false l0_0 a0_1 a0_2 a0_3 a0_4 a0_5 a0_6 l0_7)) = some r := H
                have A52 := As_.mk A520
                clear A520
                by_cases c53 : t600 = true
                ·subst c53
                 have H1 : ((r3_Ins.f k3 ((q24 y582 x8_3).f0) ((q24 y582 x8_3).f1) ((q24 y582 x8_3).f2) ((q24 y582 x8_3).f3) ((q24 y582 x8_3).f4) ((q24 y582 x8_3).f5)).bind fun t602 => (if t602 = true then ((r3_Ends.f ((q24 y582 x8_3).f0)).bind fun t604 => (if t604 = true then (w14_DagLast.j4 k3 t579 y582 x5_1 x6_19 x8_3 t592 t597 t598 true l0_0 a0_1 a0_2 a0_3 a0_4 a0_5 a0_6 l0_7) else (w14_DagLast.j4 k3 t579 y582 x5_1 x6_19 x8_3 t592 t597 t598 (((q24 y582 x8_3).f0) == 0) l0_0 a0_1 a0_2 a0_3 a0_4 a0_5 a0_6 l0_7))) else (w14_DagLast.j4 k3 t579 y582 x5_1 x6_19 x8_3 t592 t597 t598 false l0_0 a0_1 a0_2 a0_3 a0_4 a0_5 a0_6 l0_7))) = some r := by rw [if_pos rfl] at H; exact H
                 clear H
                 have H := H1
                 clear H1
                 replace H := Option.bind_eq_some_iff.mp H
                 obtain ⟨t602, A540, H⟩ := H
                 replace H : (if t602 = true then ((r3_Ends.f ((q24 y582 x8_3).f0)).bind fun t604 => (if t604 = true then (w14_DagLast.j4 k3 t579 y582 x5_1 x6_19 x8_3 t592 t597 t598 true l0_0 a0_1 a0_2 a0_3 a0_4 a0_5 a0_6 l0_7) else (w14_DagLast.j4 k3 t579 y582 x5_1 x6_19 x8_3 t592 t597 t598 (((q24 y582 x8_3).f0) == 0) l0_0 a0_1 a0_2 a0_3 a0_4 a0_5 a0_6 l0_7))) else (w14_DagLast.j4 k3 t579 y582 x5_1 x6_19 x8_3 t592 t597 t598 false l0_0 a0_1 a0_2 a0_3 a0_4 a0_5 a0_6 l0_7)) = some r := H
                 have A54 := As_.mk A540
                 clear A540
                 by_cases c55 : t602 = true
                 ·subst c55
                  have H1 : ((r3_Ends.f ((q24 y582 x8_3).f0)).bind fun t604 => (if t604 = true then (w14_DagLast.j4 k3 t579 y582 x5_1 x6_19 x8_3 t592 t597 t598 true l0_0 a0_1 a0_2 a0_3 a0_4 a0_5 a0_6 l0_7) else (w14_DagLast.j4 k3 t579 y582 x5_1 x6_19 x8_3 t592 t597 t598 (((q24 y582 x8_3).f0) == 0) l0_0 a0_1 a0_2 a0_3 a0_4 a0_5 a0_6 l0_7))) = some r := by rw [if_pos rfl] at H; exact H
                  clear H
                  have H := H1
                  clear H1
                  replace H := Option.bind_eq_some_iff.mp H
                  obtain ⟨t604, A560, H⟩ := H
                  replace H : (if t604 = true then (w14_DagLast.j4 k3 t579 y582 x5_1 x6_19 x8_3 t592 t597 t598 true l0_0 a0_1 a0_2 a0_3 a0_4 a0_5 a0_6 l0_7) else (w14_DagLast.j4 k3 t579 y582 x5_1 x6_19 x8_3 t592 t597 t598 (((q24 y582 x8_3).f0) == 0) l0_0 a0_1 a0_2 a0_3 a0_4 a0_5 a0_6 l0_7)) = some r := H
                  have A56 := As_.mk A560
                  clear A560
                  by_cases c57 : t604 = true
                  ·subst c57
                   have H1 : (w14_DagLast.j4 k3 t579 y582 x5_1 x6_19 x8_3 t592 t597 t598 true l0_0 a0_1 a0_2 a0_3 a0_4 a0_5 a0_6 l0_7) = some r := by rw [if_pos rfl] at H; exact H
                   clear H
                   have H := H1
                   clear H1
                   have H' := As_.mk H
                   clear H
                   have p599 : 0 ≤ (x5_1 : Int) := of_decide_eq_true (by assumption)
                   have q599 : x5_1 < (t579.length : Int) := of_decide_eq_true (by assumption)
                   obtain ⟨ad599, A599_0, c599_0, e599, hx599_0, hl599_0, hi599_0⟩ := at_L5 (Kd.N_reads' HO_3.out).2.2 x5_1 p599 q599
                   obtain rfl : ad586 = ad599 := (by injection e599)
                   obtain ⟨ce599, hce599, hMe599, hcc599⟩ := Kd.N_get HO_3.out [] x5_1 p599 (by first | exact q599 | exact of_decide_eq_true (by assumption) | (have e_ := (Kd.N_reads' HO_3.out).1; omega))
                   obtain ⟨ua599_0, uc599_0, rfl, ul599_0, ge599_0⟩ := Kd.FK_slice_open hMe599
                   have hv599_0 := hcc599 0 _ rfl
                   rw [Nat.add_zero, show ((Kd.slice 24 k24)).sz = 1 from rfl, Nat.mul_one] at hv599_0
                   replace hv599_0 := Option.some.inj (hv599_0.symm.trans hx599_0)
                   injection hv599_0 with hva_ hvn_ hvc_
                   rw [hva_] at ge599_0
                   rw [hvc_] at ul599_0
                   have HL599_0 := As_.mk (show Kd.V k24 24 _ w.heap.size _ _ (rd_L5 t579 x5_1) from Kd.V_mk ul599_0 ge599_0)
                   clear hva_ hvn_ hvc_ ge599_0 ul599_0
                   clear hcc599 hce599
                   have HR599_0 := As_.mk hi599_0
                   have HC599_0 := As_.mk hl599_0
                   clear hi599_0 hl599_0
                   replace p599 := eq_true p599
                   replace q599 := eq_true q599
                   (try clear hHeld); (try clear HS0_); (try clear HS1_); (try clear HS2_); (try clear HS3_); (try clear HS4_); (try clear HS5_); (try clear HS6_)
                   go_wp2_with (first | ((with_reducible refine gC_ (f := 32) rfl ?_); refine goesL_ (some 92) rfl rfl Try.func32 (by kernel_rfl) rfl #[.slice A599_0 (rd_L5 t579 x5_1).length c599_0] rfl (by (try simp only [List.map_toArray, List.map_cons, List.map_nil]); first | done | rfl) ?_; (with_reducible refine (r13_Straight.calls k3 _ _ (rd_L5 t579 x5_1) true _ ?side1 ?side2 A52.out).mono ?_); (case side1 => repeat (first | exact (by repeat (first | (with_reducible exact HR599_0.out) | (with_reducible refine Kd.C_alloc ?_ _) | (with_reducible refine Kd.C_drewN ?_ _) | (with_reducible refine Kd.C_drew ?_) | exact HR599_0.out)) | (with_reducible refine Kd.C_alloc ?_ _) | (with_reducible refine Kd.C_drewN ?_ _) | (with_reducible refine Kd.C_drew ?_))); (case side2 => exact HC599_0.out); rintro e w58 ⟨rfl, hb⟩; refine ⟨_, rfl, ?_⟩; have n0_ := As_.mk (Kd.N_below (by (with_reducible repeat (first | apply Kd.N_alloc | apply Kd.N_drewN | apply Kd.N_drew)); exact HO_3.out) hb); have n1_ := As_.mk (Kd.R_below (by (with_reducible repeat (first | apply Kd.R_alloc | apply Kd.R_drewN | apply Kd.R_drew)); exact HO_4.out) hb); have n2_ := As_.mk (Kd.R_below (by (with_reducible repeat (first | apply Kd.R_alloc | apply Kd.R_drewN | apply Kd.R_drew)); exact HO_6.out) hb); have n3_ := As_.mk (Kd.R_below (by (with_reducible repeat (first | apply Kd.R_alloc | apply Kd.R_drewN | apply Kd.R_drew)); exact HO594.out) hb); have n4_ := As_.mk (Kd.V_below (by (with_reducible repeat (first | apply Kd.V_alloc | apply Kd.V_drewN | apply Kd.V_drew)); exact HL595_0.out) hb); have n5_ := As_.mk (Kd.V_below (by (with_reducible repeat (first | apply Kd.V_alloc | apply Kd.V_drewN | apply Kd.V_drew)); exact HL599_0.out) hb); have n6_ := As_.mk (kB_ (g := gb577) (o := .cells #[.slice A0_0 l0_0.length c0_0, .int .i64 a0_1, .int .i64 a0_2, .int .i64 a0_3, .int .i64 a0_4, .int .i64 a0_5, .string a0_6, .slice A0_7 l0_7.length c0_7] 27 (0, 0)) (by (with_reducible repeat (first | refine kN_ ?_ _ | refine kD_ ?_ | refine kA_ ?_ _)); exact BK577.out) hb); have n7_ := As_.mk (Kd.C_below (by repeat (first | (with_reducible exact HR595_0.out) | (with_reducible refine Kd.C_alloc ?_ _) | (with_reducible refine Kd.C_drewN ?_ _) | (with_reducible refine Kd.C_drew ?_) | exact HR595_0.out)) hb); have n8_ := As_.mk (Kd.C_below (by repeat (first | (with_reducible exact HR599_0.out) | (with_reducible refine Kd.C_alloc ?_ _) | (with_reducible refine Kd.C_drewN ?_ _) | (with_reducible refine Kd.C_drew ?_) | exact HR599_0.out)) hb); have n9_ := As_.mk (bT_ (by repeat (first | (with_reducible first | exact HB.out | apply bA_ | apply bN_ | apply b1_ | refine bS_ ?_ GE577.out) | exact HB.out)) hb); clear HO_3; clear HO_4; clear HO_6; clear HO594; clear HL595_0; clear HL599_0; clear BK577; clear HR595_0; clear HR599_0; clear HB; have HO_3 := n0_; have HO_4 := n1_; have HO_6 := n2_; have HO594 := n3_; have HL595_0 := n4_; have HL599_0 := n5_; have BK577 := n6_; have HR595_0 := n7_; have HR599_0 := n8_; have HB := n9_; clear n0_ n1_ n2_ n3_ n4_ n5_ n6_ n7_ n8_ n9_; have p601 : 0 ≤ (x8_3 : Int) := of_decide_eq_true (by assumption); have q601 : x8_3 < (y582.length : Int) := of_decide_eq_true (by assumption); obtain ⟨ad601, e601, hx601_0, hx601_1, hx601_2, hx601_3, hx601_4, hx601_5⟩ := at_T24 (Kd.R_reads' HO_4.out).2.2 x8_3 p601 q601; obtain rfl : ad596 = ad601 := (by injection e601); replace p601 := eq_true p601; replace q601 := eq_true q601) | (go_at_call 39; (with_reducible refine (r3_Ins.calls k3 ((q24 y582 x8_3).f0) ((q24 y582 x8_3).f1) ((q24 y582 x8_3).f2) ((q24 y582 x8_3).f3) ((q24 y582 x8_3).f4) ((q24 y582 x8_3).f5) true _ A54.out).mono ?_); rintro e w59 ⟨rfl, hb⟩; have n0_ := As_.mk (Kd.N_below (by (with_reducible repeat (first | apply Kd.N_alloc | apply Kd.N_drewN | apply Kd.N_drew)); exact HO_3.out) hb); have n1_ := As_.mk (Kd.R_below (by (with_reducible repeat (first | apply Kd.R_alloc | apply Kd.R_drewN | apply Kd.R_drew)); exact HO_4.out) hb); have n2_ := As_.mk (Kd.R_below (by (with_reducible repeat (first | apply Kd.R_alloc | apply Kd.R_drewN | apply Kd.R_drew)); exact HO_6.out) hb); have n3_ := As_.mk (Kd.R_below (by (with_reducible repeat (first | apply Kd.R_alloc | apply Kd.R_drewN | apply Kd.R_drew)); exact HO594.out) hb); have n4_ := As_.mk (Kd.V_below (by (with_reducible repeat (first | apply Kd.V_alloc | apply Kd.V_drewN | apply Kd.V_drew)); exact HL595_0.out) hb); have n5_ := As_.mk (Kd.V_below (by (with_reducible repeat (first | apply Kd.V_alloc | apply Kd.V_drewN | apply Kd.V_drew)); exact HL599_0.out) hb); have n6_ := As_.mk (kB_ (g := gb577) (o := .cells #[.slice A0_0 l0_0.length c0_0, .int .i64 a0_1, .int .i64 a0_2, .int .i64 a0_3, .int .i64 a0_4, .int .i64 a0_5, .string a0_6, .slice A0_7 l0_7.length c0_7] 27 (0, 0)) (by (with_reducible repeat (first | refine kN_ ?_ _ | refine kD_ ?_ | refine kA_ ?_ _)); exact BK577.out) hb); have n7_ := As_.mk (Kd.C_below (by repeat (first | (with_reducible exact HR595_0.out) | (with_reducible refine Kd.C_alloc ?_ _) | (with_reducible refine Kd.C_drewN ?_ _) | (with_reducible refine Kd.C_drew ?_) | exact HR595_0.out)) hb); have n8_ := As_.mk (Kd.C_below (by repeat (first | (with_reducible exact HR599_0.out) | (with_reducible refine Kd.C_alloc ?_ _) | (with_reducible refine Kd.C_drewN ?_ _) | (with_reducible refine Kd.C_drew ?_) | exact HR599_0.out)) hb); have n9_ := As_.mk (bT_ (by repeat (first | (with_reducible first | exact HB.out | apply bA_ | apply bN_ | apply b1_ | refine bS_ ?_ GE577.out) | exact HB.out)) hb); clear HO_3; clear HO_4; clear HO_6; clear HO594; clear HL595_0; clear HL599_0; clear BK577; clear HR595_0; clear HR599_0; clear HB; have HO_3 := n0_; have HO_4 := n1_; have HO_6 := n2_; have HO594 := n3_; have HL595_0 := n4_; have HL599_0 := n5_; have BK577 := n6_; have HR595_0 := n7_; have HR599_0 := n8_; have HB := n9_; clear n0_ n1_ n2_ n3_ n4_ n5_ n6_ n7_ n8_ n9_; have p603 : 0 ≤ (x8_3 : Int) := of_decide_eq_true (by assumption); have q603 : x8_3 < (y582.length : Int) := of_decide_eq_true (by assumption); obtain ⟨ad603, e603, hx603_0, hx603_1, hx603_2, hx603_3, hx603_4, hx603_5⟩ := at_T24 (Kd.R_reads' HO_4.out).2.2 x8_3 p603 q603; obtain rfl : ad596 = ad603 := (by injection e603); replace p603 := eq_true p603; replace q603 := eq_true q603) | (go_at_call 40; (with_reducible refine (r3_Ends.calls ((q24 y582 x8_3).f0) true _ A56.out).mono ?_); rintro e w' ⟨rfl, ⟨nd, rfl⟩⟩))
                   go_meet
                   case rel => exact ⟨_, (true), (by first | rfl | (simp; done) | (simp [*]; done) | (simp [wrap64]; done) | (congr 1; rw [Bool.eq_iff_iff]; simp; done)), H', ⟨by have := HK1.out; have := HJ19.out; have := HK3.out; first | omega | exact Nat.le_refl _⟩, ⟨by (with_reducible repeat (first | apply Kd.N_alloc | apply Kd.N_drewN | apply Kd.N_drew)); exact Kd.N_mono HO_3.out (fun _ hk => ⟨hk.1.1, ⟨hk.1.2.1, ⟨hk.2, hk.1.2.2⟩⟩⟩)⟩, ⟨by (with_reducible repeat (first | apply Kd.R_alloc | apply Kd.R_drewN | apply Kd.R_drew)); exact HO_4.out⟩, ⟨by (with_reducible repeat (first | apply Kd.R_alloc | apply Kd.R_drewN | apply Kd.R_drew)); exact Kd.R_mono HO_6.out (fun _ hk => hk.2)⟩, ⟨by (with_reducible repeat (first | apply Kd.R_alloc | apply Kd.R_drewN | apply Kd.R_drew)); exact Kd.R_mono HO594.out (fun _ hk => hk.2)⟩, ⟨by (with_reducible repeat (first | refine kN_ ?_ _ | refine kD_ ?_ | refine kA_ ?_ _)); exact BK577.out⟩, ⟨by repeat (first | (with_reducible exact HR595_0.out) | (with_reducible refine Kd.C_alloc ?_ _) | (with_reducible refine Kd.C_drewN ?_ _) | (with_reducible refine Kd.C_drew ?_) | exact HR595_0.out)⟩, ⟨by repeat (first | (with_reducible first | exact HB.out | apply bA_ | apply bN_ | apply b1_ | refine bS_ ?_ GE577.out) | exact HB.out)⟩⟩
                  replace c57 := Bool.eq_false_iff.mpr c57
                  subst c57
                  have H1 : (w14_DagLast.j4 k3 t579 y582 x5_1 x6_19 x8_3 t592 t597 t598 (((q24 y582 x8_3).f0) == 0) l0_0 a0_1 a0_2 a0_3 a0_4 a0_5 a0_6 l0_7) = some r := by rw [if_neg (show ¬ (false = true) by decide)] at H; exact H
                  clear H
                  have H := H1
                  clear H1
                  have H' := As_.mk H
                  clear H
                  have p599 : 0 ≤ (x5_1 : Int) := of_decide_eq_true (by assumption)
                  have q599 : x5_1 < (t579.length : Int) := of_decide_eq_true (by assumption)
                  obtain ⟨ad599, A599_0, c599_0, e599, hx599_0, hl599_0, hi599_0⟩ := at_L5 (Kd.N_reads' HO_3.out).2.2 x5_1 p599 q599
                  obtain rfl : ad586 = ad599 := (by injection e599)
                  obtain ⟨ce599, hce599, hMe599, hcc599⟩ := Kd.N_get HO_3.out [] x5_1 p599 (by first | exact q599 | exact of_decide_eq_true (by assumption) | (have e_ := (Kd.N_reads' HO_3.out).1; omega))
                  obtain ⟨ua599_0, uc599_0, rfl, ul599_0, ge599_0⟩ := Kd.FK_slice_open hMe599
                  have hv599_0 := hcc599 0 _ rfl
                  rw [Nat.add_zero, show ((Kd.slice 24 k24)).sz = 1 from rfl, Nat.mul_one] at hv599_0
                  replace hv599_0 := Option.some.inj (hv599_0.symm.trans hx599_0)
                  injection hv599_0 with hva_ hvn_ hvc_
                  rw [hva_] at ge599_0
                  rw [hvc_] at ul599_0
                  have HL599_0 := As_.mk (show Kd.V k24 24 _ w.heap.size _ _ (rd_L5 t579 x5_1) from Kd.V_mk ul599_0 ge599_0)
                  clear hva_ hvn_ hvc_ ge599_0 ul599_0
                  clear hcc599 hce599
                  have HR599_0 := As_.mk hi599_0
                  have HC599_0 := As_.mk hl599_0
                  clear hi599_0 hl599_0
                  replace p599 := eq_true p599
                  replace q599 := eq_true q599
                  (try clear hHeld); (try clear HS0_); (try clear HS1_); (try clear HS2_); (try clear HS3_); (try clear HS4_); (try clear HS5_); (try clear HS6_)
                  go_wp2_with (first | ((with_reducible refine gC_ (f := 32) rfl ?_); refine goesL_ (some 92) rfl rfl Try.func32 (by kernel_rfl) rfl #[.slice A599_0 (rd_L5 t579 x5_1).length c599_0] rfl (by (try simp only [List.map_toArray, List.map_cons, List.map_nil]); first | done | rfl) ?_; (with_reducible refine (r13_Straight.calls k3 _ _ (rd_L5 t579 x5_1) true _ ?side1 ?side2 A52.out).mono ?_); (case side1 => repeat (first | exact (by repeat (first | (with_reducible exact HR599_0.out) | (with_reducible refine Kd.C_alloc ?_ _) | (with_reducible refine Kd.C_drewN ?_ _) | (with_reducible refine Kd.C_drew ?_) | exact HR599_0.out)) | (with_reducible refine Kd.C_alloc ?_ _) | (with_reducible refine Kd.C_drewN ?_ _) | (with_reducible refine Kd.C_drew ?_))); (case side2 => exact HC599_0.out); rintro e w60 ⟨rfl, hb⟩; refine ⟨_, rfl, ?_⟩; have n0_ := As_.mk (Kd.N_below (by (with_reducible repeat (first | apply Kd.N_alloc | apply Kd.N_drewN | apply Kd.N_drew)); exact HO_3.out) hb); have n1_ := As_.mk (Kd.R_below (by (with_reducible repeat (first | apply Kd.R_alloc | apply Kd.R_drewN | apply Kd.R_drew)); exact HO_4.out) hb); have n2_ := As_.mk (Kd.R_below (by (with_reducible repeat (first | apply Kd.R_alloc | apply Kd.R_drewN | apply Kd.R_drew)); exact HO_6.out) hb); have n3_ := As_.mk (Kd.R_below (by (with_reducible repeat (first | apply Kd.R_alloc | apply Kd.R_drewN | apply Kd.R_drew)); exact HO594.out) hb); have n4_ := As_.mk (Kd.V_below (by (with_reducible repeat (first | apply Kd.V_alloc | apply Kd.V_drewN | apply Kd.V_drew)); exact HL595_0.out) hb); have n5_ := As_.mk (Kd.V_below (by (with_reducible repeat (first | apply Kd.V_alloc | apply Kd.V_drewN | apply Kd.V_drew)); exact HL599_0.out) hb); have n6_ := As_.mk (kB_ (g := gb577) (o := .cells #[.slice A0_0 l0_0.length c0_0, .int .i64 a0_1, .int .i64 a0_2, .int .i64 a0_3, .int .i64 a0_4, .int .i64 a0_5, .string a0_6, .slice A0_7 l0_7.length c0_7] 27 (0, 0)) (by (with_reducible repeat (first | refine kN_ ?_ _ | refine kD_ ?_ | refine kA_ ?_ _)); exact BK577.out) hb); have n7_ := As_.mk (Kd.C_below (by repeat (first | (with_reducible exact HR595_0.out) | (with_reducible refine Kd.C_alloc ?_ _) | (with_reducible refine Kd.C_drewN ?_ _) | (with_reducible refine Kd.C_drew ?_) | exact HR595_0.out)) hb); have n8_ := As_.mk (Kd.C_below (by repeat (first | (with_reducible exact HR599_0.out) | (with_reducible refine Kd.C_alloc ?_ _) | (with_reducible refine Kd.C_drewN ?_ _) | (with_reducible refine Kd.C_drew ?_) | exact HR599_0.out)) hb); have n9_ := As_.mk (bT_ (by repeat (first | (with_reducible first | exact HB.out | apply bA_ | apply bN_ | apply b1_ | refine bS_ ?_ GE577.out) | exact HB.out)) hb); clear HO_3; clear HO_4; clear HO_6; clear HO594; clear HL595_0; clear HL599_0; clear BK577; clear HR595_0; clear HR599_0; clear HB; have HO_3 := n0_; have HO_4 := n1_; have HO_6 := n2_; have HO594 := n3_; have HL595_0 := n4_; have HL599_0 := n5_; have BK577 := n6_; have HR595_0 := n7_; have HR599_0 := n8_; have HB := n9_; clear n0_ n1_ n2_ n3_ n4_ n5_ n6_ n7_ n8_ n9_; have p601 : 0 ≤ (x8_3 : Int) := of_decide_eq_true (by assumption); have q601 : x8_3 < (y582.length : Int) := of_decide_eq_true (by assumption); obtain ⟨ad601, e601, hx601_0, hx601_1, hx601_2, hx601_3, hx601_4, hx601_5⟩ := at_T24 (Kd.R_reads' HO_4.out).2.2 x8_3 p601 q601; obtain rfl : ad596 = ad601 := (by injection e601); replace p601 := eq_true p601; replace q601 := eq_true q601) | (go_at_call 39; (with_reducible refine (r3_Ins.calls k3 ((q24 y582 x8_3).f0) ((q24 y582 x8_3).f1) ((q24 y582 x8_3).f2) ((q24 y582 x8_3).f3) ((q24 y582 x8_3).f4) ((q24 y582 x8_3).f5) true _ A54.out).mono ?_); rintro e w61 ⟨rfl, hb⟩; have n0_ := As_.mk (Kd.N_below (by (with_reducible repeat (first | apply Kd.N_alloc | apply Kd.N_drewN | apply Kd.N_drew)); exact HO_3.out) hb); have n1_ := As_.mk (Kd.R_below (by (with_reducible repeat (first | apply Kd.R_alloc | apply Kd.R_drewN | apply Kd.R_drew)); exact HO_4.out) hb); have n2_ := As_.mk (Kd.R_below (by (with_reducible repeat (first | apply Kd.R_alloc | apply Kd.R_drewN | apply Kd.R_drew)); exact HO_6.out) hb); have n3_ := As_.mk (Kd.R_below (by (with_reducible repeat (first | apply Kd.R_alloc | apply Kd.R_drewN | apply Kd.R_drew)); exact HO594.out) hb); have n4_ := As_.mk (Kd.V_below (by (with_reducible repeat (first | apply Kd.V_alloc | apply Kd.V_drewN | apply Kd.V_drew)); exact HL595_0.out) hb); have n5_ := As_.mk (Kd.V_below (by (with_reducible repeat (first | apply Kd.V_alloc | apply Kd.V_drewN | apply Kd.V_drew)); exact HL599_0.out) hb); have n6_ := As_.mk (kB_ (g := gb577) (o := .cells #[.slice A0_0 l0_0.length c0_0, .int .i64 a0_1, .int .i64 a0_2, .int .i64 a0_3, .int .i64 a0_4, .int .i64 a0_5, .string a0_6, .slice A0_7 l0_7.length c0_7] 27 (0, 0)) (by (with_reducible repeat (first | refine kN_ ?_ _ | refine kD_ ?_ | refine kA_ ?_ _)); exact BK577.out) hb); have n7_ := As_.mk (Kd.C_below (by repeat (first | (with_reducible exact HR595_0.out) | (with_reducible refine Kd.C_alloc ?_ _) | (with_reducible refine Kd.C_drewN ?_ _) | (with_reducible refine Kd.C_drew ?_) | exact HR595_0.out)) hb); have n8_ := As_.mk (Kd.C_below (by repeat (first | (with_reducible exact HR599_0.out) | (with_reducible refine Kd.C_alloc ?_ _) | (with_reducible refine Kd.C_drewN ?_ _) | (with_reducible refine Kd.C_drew ?_) | exact HR599_0.out)) hb); have n9_ := As_.mk (bT_ (by repeat (first | (with_reducible first | exact HB.out | apply bA_ | apply bN_ | apply b1_ | refine bS_ ?_ GE577.out) | exact HB.out)) hb); clear HO_3; clear HO_4; clear HO_6; clear HO594; clear HL595_0; clear HL599_0; clear BK577; clear HR595_0; clear HR599_0; clear HB; have HO_3 := n0_; have HO_4 := n1_; have HO_6 := n2_; have HO594 := n3_; have HL595_0 := n4_; have HL599_0 := n5_; have BK577 := n6_; have HR595_0 := n7_; have HR599_0 := n8_; have HB := n9_; clear n0_ n1_ n2_ n3_ n4_ n5_ n6_ n7_ n8_ n9_; have p603 : 0 ≤ (x8_3 : Int) := of_decide_eq_true (by assumption); have q603 : x8_3 < (y582.length : Int) := of_decide_eq_true (by assumption); obtain ⟨ad603, e603, hx603_0, hx603_1, hx603_2, hx603_3, hx603_4, hx603_5⟩ := at_T24 (Kd.R_reads' HO_4.out).2.2 x8_3 p603 q603; obtain rfl : ad596 = ad603 := (by injection e603); replace p603 := eq_true p603; replace q603 := eq_true q603) | (go_at_call 40; (with_reducible refine (r3_Ends.calls ((q24 y582 x8_3).f0) false _ A56.out).mono ?_); rintro e w' ⟨rfl, ⟨nd, rfl⟩⟩; have p605 : 0 ≤ (x8_3 : Int) := of_decide_eq_true (by assumption); have q605 : x8_3 < (y582.length : Int) := of_decide_eq_true (by assumption); obtain ⟨ad605, e605, hx605_0, hx605_1, hx605_2, hx605_3, hx605_4, hx605_5⟩ := at_T24 (Kd.R_reads' HO_4.out).2.2 x8_3 p605 q605; obtain rfl : ad596 = ad605 := (by injection e605); replace p605 := eq_true p605; replace q605 := eq_true q605))
                  go_meet
                  case rel => exact ⟨_, ((((q24 y582 x8_3).f0) == 0)), (by first | rfl | (simp; done) | (simp [*]; done) | (simp [wrap64]; done) | (congr 1; rw [Bool.eq_iff_iff]; simp; done)), H', ⟨by have := HK1.out; have := HJ19.out; have := HK3.out; first | omega | exact Nat.le_refl _⟩, ⟨by (with_reducible repeat (first | apply Kd.N_alloc | apply Kd.N_drewN | apply Kd.N_drew)); exact Kd.N_mono HO_3.out (fun _ hk => ⟨hk.1.1, ⟨hk.1.2.1, ⟨hk.2, hk.1.2.2⟩⟩⟩)⟩, ⟨by (with_reducible repeat (first | apply Kd.R_alloc | apply Kd.R_drewN | apply Kd.R_drew)); exact HO_4.out⟩, ⟨by (with_reducible repeat (first | apply Kd.R_alloc | apply Kd.R_drewN | apply Kd.R_drew)); exact Kd.R_mono HO_6.out (fun _ hk => hk.2)⟩, ⟨by (with_reducible repeat (first | apply Kd.R_alloc | apply Kd.R_drewN | apply Kd.R_drew)); exact Kd.R_mono HO594.out (fun _ hk => hk.2)⟩, ⟨by (with_reducible repeat (first | refine kN_ ?_ _ | refine kD_ ?_ | refine kA_ ?_ _)); exact BK577.out⟩, ⟨by repeat (first | (with_reducible exact HR595_0.out) | (with_reducible refine Kd.C_alloc ?_ _) | (with_reducible refine Kd.C_drewN ?_ _) | (with_reducible refine Kd.C_drew ?_) | exact HR595_0.out)⟩, ⟨by repeat (first | (with_reducible first | exact HB.out | apply bA_ | apply bN_ | apply b1_ | refine bS_ ?_ GE577.out) | exact HB.out)⟩⟩
                 replace c55 := Bool.eq_false_iff.mpr c55
                 subst c55
                 have H1 : (w14_DagLast.j4 k3 t579 y582 x5_1 x6_19 x8_3 t592 t597 t598 false l0_0 a0_1 a0_2 a0_3 a0_4 a0_5 a0_6 l0_7) = some r := by rw [if_neg (show ¬ (false = true) by decide)] at H; exact H
                 clear H
                 have H := H1
                 clear H1
                 have H' := As_.mk H
                 clear H
                 have p599 : 0 ≤ (x5_1 : Int) := of_decide_eq_true (by assumption)
                 have q599 : x5_1 < (t579.length : Int) := of_decide_eq_true (by assumption)
                 obtain ⟨ad599, A599_0, c599_0, e599, hx599_0, hl599_0, hi599_0⟩ := at_L5 (Kd.N_reads' HO_3.out).2.2 x5_1 p599 q599
                 obtain rfl : ad586 = ad599 := (by injection e599)
                 obtain ⟨ce599, hce599, hMe599, hcc599⟩ := Kd.N_get HO_3.out [] x5_1 p599 (by first | exact q599 | exact of_decide_eq_true (by assumption) | (have e_ := (Kd.N_reads' HO_3.out).1; omega))
                 obtain ⟨ua599_0, uc599_0, rfl, ul599_0, ge599_0⟩ := Kd.FK_slice_open hMe599
                 have hv599_0 := hcc599 0 _ rfl
                 rw [Nat.add_zero, show ((Kd.slice 24 k24)).sz = 1 from rfl, Nat.mul_one] at hv599_0
                 replace hv599_0 := Option.some.inj (hv599_0.symm.trans hx599_0)
                 injection hv599_0 with hva_ hvn_ hvc_
                 rw [hva_] at ge599_0
                 rw [hvc_] at ul599_0
                 have HL599_0 := As_.mk (show Kd.V k24 24 _ w.heap.size _ _ (rd_L5 t579 x5_1) from Kd.V_mk ul599_0 ge599_0)
                 clear hva_ hvn_ hvc_ ge599_0 ul599_0
                 clear hcc599 hce599
                 have HR599_0 := As_.mk hi599_0
                 have HC599_0 := As_.mk hl599_0
                 clear hi599_0 hl599_0
                 replace p599 := eq_true p599
                 replace q599 := eq_true q599
                 (try clear hHeld); (try clear HS0_); (try clear HS1_); (try clear HS2_); (try clear HS3_); (try clear HS4_); (try clear HS5_); (try clear HS6_)
                 go_wp2_with (first | ((with_reducible refine gC_ (f := 32) rfl ?_); refine goesL_ (some 92) rfl rfl Try.func32 (by kernel_rfl) rfl #[.slice A599_0 (rd_L5 t579 x5_1).length c599_0] rfl (by (try simp only [List.map_toArray, List.map_cons, List.map_nil]); first | done | rfl) ?_; (with_reducible refine (r13_Straight.calls k3 _ _ (rd_L5 t579 x5_1) true _ ?side1 ?side2 A52.out).mono ?_); (case side1 => repeat (first | exact (by repeat (first | (with_reducible exact HR599_0.out) | (with_reducible refine Kd.C_alloc ?_ _) | (with_reducible refine Kd.C_drewN ?_ _) | (with_reducible refine Kd.C_drew ?_) | exact HR599_0.out)) | (with_reducible refine Kd.C_alloc ?_ _) | (with_reducible refine Kd.C_drewN ?_ _) | (with_reducible refine Kd.C_drew ?_))); (case side2 => exact HC599_0.out); rintro e w62 ⟨rfl, hb⟩; refine ⟨_, rfl, ?_⟩; have n0_ := As_.mk (Kd.N_below (by (with_reducible repeat (first | apply Kd.N_alloc | apply Kd.N_drewN | apply Kd.N_drew)); exact HO_3.out) hb); have n1_ := As_.mk (Kd.R_below (by (with_reducible repeat (first | apply Kd.R_alloc | apply Kd.R_drewN | apply Kd.R_drew)); exact HO_4.out) hb); have n2_ := As_.mk (Kd.R_below (by (with_reducible repeat (first | apply Kd.R_alloc | apply Kd.R_drewN | apply Kd.R_drew)); exact HO_6.out) hb); have n3_ := As_.mk (Kd.R_below (by (with_reducible repeat (first | apply Kd.R_alloc | apply Kd.R_drewN | apply Kd.R_drew)); exact HO594.out) hb); have n4_ := As_.mk (Kd.V_below (by (with_reducible repeat (first | apply Kd.V_alloc | apply Kd.V_drewN | apply Kd.V_drew)); exact HL595_0.out) hb); have n5_ := As_.mk (Kd.V_below (by (with_reducible repeat (first | apply Kd.V_alloc | apply Kd.V_drewN | apply Kd.V_drew)); exact HL599_0.out) hb); have n6_ := As_.mk (kB_ (g := gb577) (o := .cells #[.slice A0_0 l0_0.length c0_0, .int .i64 a0_1, .int .i64 a0_2, .int .i64 a0_3, .int .i64 a0_4, .int .i64 a0_5, .string a0_6, .slice A0_7 l0_7.length c0_7] 27 (0, 0)) (by (with_reducible repeat (first | refine kN_ ?_ _ | refine kD_ ?_ | refine kA_ ?_ _)); exact BK577.out) hb); have n7_ := As_.mk (Kd.C_below (by repeat (first | (with_reducible exact HR595_0.out) | (with_reducible refine Kd.C_alloc ?_ _) | (with_reducible refine Kd.C_drewN ?_ _) | (with_reducible refine Kd.C_drew ?_) | exact HR595_0.out)) hb); have n8_ := As_.mk (Kd.C_below (by repeat (first | (with_reducible exact HR599_0.out) | (with_reducible refine Kd.C_alloc ?_ _) | (with_reducible refine Kd.C_drewN ?_ _) | (with_reducible refine Kd.C_drew ?_) | exact HR599_0.out)) hb); have n9_ := As_.mk (bT_ (by repeat (first | (with_reducible first | exact HB.out | apply bA_ | apply bN_ | apply b1_ | refine bS_ ?_ GE577.out) | exact HB.out)) hb); clear HO_3; clear HO_4; clear HO_6; clear HO594; clear HL595_0; clear HL599_0; clear BK577; clear HR595_0; clear HR599_0; clear HB; have HO_3 := n0_; have HO_4 := n1_; have HO_6 := n2_; have HO594 := n3_; have HL595_0 := n4_; have HL599_0 := n5_; have BK577 := n6_; have HR595_0 := n7_; have HR599_0 := n8_; have HB := n9_; clear n0_ n1_ n2_ n3_ n4_ n5_ n6_ n7_ n8_ n9_; have p601 : 0 ≤ (x8_3 : Int) := of_decide_eq_true (by assumption); have q601 : x8_3 < (y582.length : Int) := of_decide_eq_true (by assumption); obtain ⟨ad601, e601, hx601_0, hx601_1, hx601_2, hx601_3, hx601_4, hx601_5⟩ := at_T24 (Kd.R_reads' HO_4.out).2.2 x8_3 p601 q601; obtain rfl : ad596 = ad601 := (by injection e601); replace p601 := eq_true p601; replace q601 := eq_true q601) | (go_at_call 39; (with_reducible refine (r3_Ins.calls k3 ((q24 y582 x8_3).f0) ((q24 y582 x8_3).f1) ((q24 y582 x8_3).f2) ((q24 y582 x8_3).f3) ((q24 y582 x8_3).f4) ((q24 y582 x8_3).f5) false _ A54.out).mono ?_); rintro e w63 ⟨rfl, hb⟩; have n0_ := As_.mk (Kd.N_below (by (with_reducible repeat (first | apply Kd.N_alloc | apply Kd.N_drewN | apply Kd.N_drew)); exact HO_3.out) hb); have n1_ := As_.mk (Kd.R_below (by (with_reducible repeat (first | apply Kd.R_alloc | apply Kd.R_drewN | apply Kd.R_drew)); exact HO_4.out) hb); have n2_ := As_.mk (Kd.R_below (by (with_reducible repeat (first | apply Kd.R_alloc | apply Kd.R_drewN | apply Kd.R_drew)); exact HO_6.out) hb); have n3_ := As_.mk (Kd.R_below (by (with_reducible repeat (first | apply Kd.R_alloc | apply Kd.R_drewN | apply Kd.R_drew)); exact HO594.out) hb); have n4_ := As_.mk (Kd.V_below (by (with_reducible repeat (first | apply Kd.V_alloc | apply Kd.V_drewN | apply Kd.V_drew)); exact HL595_0.out) hb); have n5_ := As_.mk (Kd.V_below (by (with_reducible repeat (first | apply Kd.V_alloc | apply Kd.V_drewN | apply Kd.V_drew)); exact HL599_0.out) hb); have n6_ := As_.mk (kB_ (g := gb577) (o := .cells #[.slice A0_0 l0_0.length c0_0, .int .i64 a0_1, .int .i64 a0_2, .int .i64 a0_3, .int .i64 a0_4, .int .i64 a0_5, .string a0_6, .slice A0_7 l0_7.length c0_7] 27 (0, 0)) (by (with_reducible repeat (first | refine kN_ ?_ _ | refine kD_ ?_ | refine kA_ ?_ _)); exact BK577.out) hb); have n7_ := As_.mk (Kd.C_below (by repeat (first | (with_reducible exact HR595_0.out) | (with_reducible refine Kd.C_alloc ?_ _) | (with_reducible refine Kd.C_drewN ?_ _) | (with_reducible refine Kd.C_drew ?_) | exact HR595_0.out)) hb); have n8_ := As_.mk (Kd.C_below (by repeat (first | (with_reducible exact HR599_0.out) | (with_reducible refine Kd.C_alloc ?_ _) | (with_reducible refine Kd.C_drewN ?_ _) | (with_reducible refine Kd.C_drew ?_) | exact HR599_0.out)) hb); have n9_ := As_.mk (bT_ (by repeat (first | (with_reducible first | exact HB.out | apply bA_ | apply bN_ | apply b1_ | refine bS_ ?_ GE577.out) | exact HB.out)) hb); clear HO_3; clear HO_4; clear HO_6; clear HO594; clear HL595_0; clear HL599_0; clear BK577; clear HR595_0; clear HR599_0; clear HB; have HO_3 := n0_; have HO_4 := n1_; have HO_6 := n2_; have HO594 := n3_; have HL595_0 := n4_; have HL599_0 := n5_; have BK577 := n6_; have HR595_0 := n7_; have HR599_0 := n8_; have HB := n9_; clear n0_ n1_ n2_ n3_ n4_ n5_ n6_ n7_ n8_ n9_))
                 go_meet
                 case rel => exact ⟨_, (false), (by first | rfl | (simp; done) | (simp [*]; done) | (simp [wrap64]; done) | (congr 1; rw [Bool.eq_iff_iff]; simp; done)), H', ⟨by have := HK1.out; have := HJ19.out; have := HK3.out; first | omega | exact Nat.le_refl _⟩, ⟨by (with_reducible repeat (first | apply Kd.N_alloc | apply Kd.N_drewN | apply Kd.N_drew)); exact Kd.N_mono HO_3.out (fun _ hk => ⟨hk.1.1, ⟨hk.1.2.1, ⟨hk.2, hk.1.2.2⟩⟩⟩)⟩, ⟨by (with_reducible repeat (first | apply Kd.R_alloc | apply Kd.R_drewN | apply Kd.R_drew)); exact HO_4.out⟩, ⟨by (with_reducible repeat (first | apply Kd.R_alloc | apply Kd.R_drewN | apply Kd.R_drew)); exact Kd.R_mono HO_6.out (fun _ hk => hk.2)⟩, ⟨by (with_reducible repeat (first | apply Kd.R_alloc | apply Kd.R_drewN | apply Kd.R_drew)); exact Kd.R_mono HO594.out (fun _ hk => hk.2)⟩, ⟨by (with_reducible repeat (first | refine kN_ ?_ _ | refine kD_ ?_ | refine kA_ ?_ _)); exact BK577.out⟩, ⟨by repeat (first | (with_reducible exact HR595_0.out) | (with_reducible refine Kd.C_alloc ?_ _) | (with_reducible refine Kd.C_drewN ?_ _) | (with_reducible refine Kd.C_drew ?_) | exact HR595_0.out)⟩, ⟨by repeat (first | (with_reducible first | exact HB.out | apply bA_ | apply bN_ | apply b1_ | refine bS_ ?_ GE577.out) | exact HB.out)⟩⟩
                replace c53 := Bool.eq_false_iff.mpr c53
                subst c53
                have H1 : (w14_DagLast.j4 k3 t579 y582 x5_1 x6_19 x8_3 t592 t597 t598 false l0_0 a0_1 a0_2 a0_3 a0_4 a0_5 a0_6 l0_7) = some r := by rw [if_neg (show ¬ (false = true) by decide)] at H; exact H
                clear H
                have H := H1
                clear H1
                have H' := As_.mk H
                clear H
                have p599 : 0 ≤ (x5_1 : Int) := of_decide_eq_true (by assumption)
                have q599 : x5_1 < (t579.length : Int) := of_decide_eq_true (by assumption)
                obtain ⟨ad599, A599_0, c599_0, e599, hx599_0, hl599_0, hi599_0⟩ := at_L5 (Kd.N_reads' HO_3.out).2.2 x5_1 p599 q599
                obtain rfl : ad586 = ad599 := (by injection e599)
                obtain ⟨ce599, hce599, hMe599, hcc599⟩ := Kd.N_get HO_3.out [] x5_1 p599 (by first | exact q599 | exact of_decide_eq_true (by assumption) | (have e_ := (Kd.N_reads' HO_3.out).1; omega))
                obtain ⟨ua599_0, uc599_0, rfl, ul599_0, ge599_0⟩ := Kd.FK_slice_open hMe599
                have hv599_0 := hcc599 0 _ rfl
                rw [Nat.add_zero, show ((Kd.slice 24 k24)).sz = 1 from rfl, Nat.mul_one] at hv599_0
                replace hv599_0 := Option.some.inj (hv599_0.symm.trans hx599_0)
                injection hv599_0 with hva_ hvn_ hvc_
                rw [hva_] at ge599_0
                rw [hvc_] at ul599_0
                have HL599_0 := As_.mk (show Kd.V k24 24 _ w.heap.size _ _ (rd_L5 t579 x5_1) from Kd.V_mk ul599_0 ge599_0)
                clear hva_ hvn_ hvc_ ge599_0 ul599_0
                clear hcc599 hce599
                have HR599_0 := As_.mk hi599_0
                have HC599_0 := As_.mk hl599_0
                clear hi599_0 hl599_0
                replace p599 := eq_true p599
                replace q599 := eq_true q599
                (try clear hHeld); (try clear HS0_); (try clear HS1_); (try clear HS2_); (try clear HS3_); (try clear HS4_); (try clear HS5_); (try clear HS6_)
                go_wp2_with (first | ((with_reducible refine gC_ (f := 32) rfl ?_); refine goesL_ (some 92) rfl rfl Try.func32 (by kernel_rfl) rfl #[.slice A599_0 (rd_L5 t579 x5_1).length c599_0] rfl (by (try simp only [List.map_toArray, List.map_cons, List.map_nil]); first | done | rfl) ?_; (with_reducible refine (r13_Straight.calls k3 _ _ (rd_L5 t579 x5_1) false _ ?side1 ?side2 A52.out).mono ?_); (case side1 => repeat (first | exact (by repeat (first | (with_reducible exact HR599_0.out) | (with_reducible refine Kd.C_alloc ?_ _) | (with_reducible refine Kd.C_drewN ?_ _) | (with_reducible refine Kd.C_drew ?_) | exact HR599_0.out)) | (with_reducible refine Kd.C_alloc ?_ _) | (with_reducible refine Kd.C_drewN ?_ _) | (with_reducible refine Kd.C_drew ?_))); (case side2 => exact HC599_0.out); rintro e w64 ⟨rfl, hb⟩; refine ⟨_, rfl, ?_⟩; have n0_ := As_.mk (Kd.N_below (by (with_reducible repeat (first | apply Kd.N_alloc | apply Kd.N_drewN | apply Kd.N_drew)); exact HO_3.out) hb); have n1_ := As_.mk (Kd.R_below (by (with_reducible repeat (first | apply Kd.R_alloc | apply Kd.R_drewN | apply Kd.R_drew)); exact HO_4.out) hb); have n2_ := As_.mk (Kd.R_below (by (with_reducible repeat (first | apply Kd.R_alloc | apply Kd.R_drewN | apply Kd.R_drew)); exact HO_6.out) hb); have n3_ := As_.mk (Kd.R_below (by (with_reducible repeat (first | apply Kd.R_alloc | apply Kd.R_drewN | apply Kd.R_drew)); exact HO594.out) hb); have n4_ := As_.mk (Kd.V_below (by (with_reducible repeat (first | apply Kd.V_alloc | apply Kd.V_drewN | apply Kd.V_drew)); exact HL595_0.out) hb); have n5_ := As_.mk (Kd.V_below (by (with_reducible repeat (first | apply Kd.V_alloc | apply Kd.V_drewN | apply Kd.V_drew)); exact HL599_0.out) hb); have n6_ := As_.mk (kB_ (g := gb577) (o := .cells #[.slice A0_0 l0_0.length c0_0, .int .i64 a0_1, .int .i64 a0_2, .int .i64 a0_3, .int .i64 a0_4, .int .i64 a0_5, .string a0_6, .slice A0_7 l0_7.length c0_7] 27 (0, 0)) (by (with_reducible repeat (first | refine kN_ ?_ _ | refine kD_ ?_ | refine kA_ ?_ _)); exact BK577.out) hb); have n7_ := As_.mk (Kd.C_below (by repeat (first | (with_reducible exact HR595_0.out) | (with_reducible refine Kd.C_alloc ?_ _) | (with_reducible refine Kd.C_drewN ?_ _) | (with_reducible refine Kd.C_drew ?_) | exact HR595_0.out)) hb); have n8_ := As_.mk (Kd.C_below (by repeat (first | (with_reducible exact HR599_0.out) | (with_reducible refine Kd.C_alloc ?_ _) | (with_reducible refine Kd.C_drewN ?_ _) | (with_reducible refine Kd.C_drew ?_) | exact HR599_0.out)) hb); have n9_ := As_.mk (bT_ (by repeat (first | (with_reducible first | exact HB.out | apply bA_ | apply bN_ | apply b1_ | refine bS_ ?_ GE577.out) | exact HB.out)) hb); clear HO_3; clear HO_4; clear HO_6; clear HO594; clear HL595_0; clear HL599_0; clear BK577; clear HR595_0; clear HR599_0; clear HB; have HO_3 := n0_; have HO_4 := n1_; have HO_6 := n2_; have HO594 := n3_; have HL595_0 := n4_; have HL599_0 := n5_; have BK577 := n6_; have HR595_0 := n7_; have HR599_0 := n8_; have HB := n9_; clear n0_ n1_ n2_ n3_ n4_ n5_ n6_ n7_ n8_ n9_))
                go_meet
                case rel => exact ⟨_, (false), (by first | rfl | (simp; done) | (simp [*]; done) | (simp [wrap64]; done) | (congr 1; rw [Bool.eq_iff_iff]; simp; done)), H', ⟨by have := HK1.out; have := HJ19.out; have := HK3.out; first | omega | exact Nat.le_refl _⟩, ⟨by (with_reducible repeat (first | apply Kd.N_alloc | apply Kd.N_drewN | apply Kd.N_drew)); exact Kd.N_mono HO_3.out (fun _ hk => ⟨hk.1.1, ⟨hk.1.2.1, ⟨hk.2, hk.1.2.2⟩⟩⟩)⟩, ⟨by (with_reducible repeat (first | apply Kd.R_alloc | apply Kd.R_drewN | apply Kd.R_drew)); exact HO_4.out⟩, ⟨by (with_reducible repeat (first | apply Kd.R_alloc | apply Kd.R_drewN | apply Kd.R_drew)); exact Kd.R_mono HO_6.out (fun _ hk => hk.2)⟩, ⟨by (with_reducible repeat (first | apply Kd.R_alloc | apply Kd.R_drewN | apply Kd.R_drew)); exact Kd.R_mono HO594.out (fun _ hk => hk.2)⟩, ⟨by (with_reducible repeat (first | refine kN_ ?_ _ | refine kD_ ?_ | refine kA_ ?_ _)); exact BK577.out⟩, ⟨by repeat (first | (with_reducible exact HR595_0.out) | (with_reducible refine Kd.C_alloc ?_ _) | (with_reducible refine Kd.C_drewN ?_ _) | (with_reducible refine Kd.C_drew ?_) | exact HR595_0.out)⟩, ⟨by repeat (first | (with_reducible first | exact HB.out | apply bA_ | apply bN_ | apply b1_ | refine bS_ ?_ GE577.out) | exact HB.out)⟩⟩
               case rest =>
                clear HC45
                try (try clear hHeld); (try clear HS0_); (try clear HS1_); (try clear HS2_); (try clear HS3_); (try clear HS4_); (try clear HS5_); (try clear HS6_)
                obtain ⟨kq, x12_44, rfl, HA, HJ44, HO_3, HO_4, HO_6, HO_9, BK577, HR595_0, HB⟩ := hcut
                cases kq with
                | zero => exact absurd HA.out (by simp [w14_DagLast.j4])
                | succ kj44 =>
                 have H := HA.out
                 clear HA
                 simp only [w14_DagLast.j4] at H
                 have H' := As_.mk H
                 clear H
                 go_wp2
                 go_loopg [12, 13] kj44 (fun kq v12 v13 w' => ∃ (x12_5 : Bool) (x13_5 : Int), v12 = .bool x12_5 ∧ v13 = .int .i64 x13_5 ∧ As_ (w14_DagLast.l3 kq t579 y582 x5_1 x6_19 x8_3 t592 t597 t598 x12_5 x13_5 l0_0 a0_1 a0_2 a0_3 a0_4 a0_5 a0_6 l0_7 = some r) ∧ As_ (kq ≤ kj44) ∧ As_ (Kd.N (Kd.slice 24 k24) 22 w' w.heap.size (fun k_ => some k_ ≠ ((.slice (some ad596) y582.length co46) : Value).ownBlock ∧ some k_ ≠ ((.slice Ao47 x6_19.length co47) : Value).ownBlock ∧ some k_ ≠ ((.slice Ao50 t592.length co50) : Value).ownBlock ∧ k_ ≠ gb577) (.slice (some ad586) t579.length co21) t579) ∧ As_ (Kd.R k24 24 w' w.heap.size (fun _ => True) (.slice (some ad596) y582.length co46) y582) ∧ As_ (Kd.R (Kd.int .i64) 3 w' w.heap.size (fun k_ => some k_ ≠ ((.slice Ao50 t592.length co50) : Value).ownBlock) (.slice Ao47 x6_19.length co47) x6_19) ∧ As_ (Kd.R (Kd.int .i64) 3 w' w.heap.size (fun k_ => some k_ ≠ ((.slice Ao47 x6_19.length co47) : Value).ownBlock) (.slice Ao50 t592.length co50) t592) ∧ As_ (w'.heap[gb577]? = some (.cells #[(.slice A0_0 l0_0.length c0_0), .int .i64 a0_1, .int .i64 a0_2, .int .i64 a0_3, .int .i64 a0_4, .int .i64 a0_5, .string a0_6, (.slice A0_7 l0_7.length c0_7)] 27 (0, 0))) ∧ As_ (Kd.C k24 w' A595_0 (rd_L5 t579 x5_1).length (rd_L5 t579 x5_1)) ∧ As_ (Below w.heap.size w w'))
                 case atStart => exact ⟨(x12_44), (0), (by first | rfl | (simp; done) | (simp [*]; done) | (simp [wrap64]; done) | (congr 1; rw [Bool.eq_iff_iff]; simp; done)), (by first | rfl | (simp; done) | (simp [*]; done) | (simp [wrap64]; done) | (congr 1; rw [Bool.eq_iff_iff]; simp; done)), H', ⟨Nat.le_refl _⟩, ⟨by (with_reducible repeat (first | apply Kd.N_alloc | apply Kd.N_drewN | apply Kd.N_drew)); exact HO_3.out⟩, ⟨by (with_reducible repeat (first | apply Kd.R_alloc | apply Kd.R_drewN | apply Kd.R_drew)); exact HO_4.out⟩, ⟨by (with_reducible repeat (first | apply Kd.R_alloc | apply Kd.R_drewN | apply Kd.R_drew)); exact HO_6.out⟩, ⟨by (with_reducible repeat (first | apply Kd.R_alloc | apply Kd.R_drewN | apply Kd.R_drew)); exact HO_9.out⟩, ⟨by (with_reducible repeat (first | refine kN_ ?_ _ | refine kD_ ?_ | refine kA_ ?_ _)); exact BK577.out⟩, ⟨by repeat (first | (with_reducible exact HR595_0.out) | (with_reducible refine Kd.C_alloc ?_ _) | (with_reducible refine Kd.C_drewN ?_ _) | (with_reducible refine Kd.C_drew ?_) | exact HR595_0.out)⟩, ⟨by repeat (first | (with_reducible first | exact HB.out | apply bA_ | apply bN_ | apply b1_ | refine bS_ ?_ GE577.out) | exact HB.out)⟩⟩
                 case round =>
                  clear H'
                  try (try clear hHeld); (try clear HS0_); (try clear HS1_); (try clear HS2_); (try clear HS3_); (try clear HS4_); (try clear HS5_); (try clear HS6_)
                  obtain ⟨x12_5, x13_5, rfl, rfl, HA, HK5, HO_3, HO_4, HO_6, HO_9, BK577, HR595_0, HB⟩ := hrel
                  cases gk with
                  | zero => exact absurd HA.out (by simp [w14_DagLast.l3])
                  | succ k5 =>
                   have H := HA.out
                   clear HA
                   simp only [w14_DagLast.l3] at H
                   by_cases c65 : x13_5 < (x6_19.length : Int)
                   ·rw [if_pos c65] at H
                    have c65b0 : decide (x13_5 < (x6_19.length : Int)) = true := decide_eq_true c65
                    clear c65
                    by_cases c66 : x12_5 = true
                    ·subst c66
                     have H1 : (if 0 ≤ x13_5 then ((r0_Num.f (rd x6_19 x13_5) 800).bind fun t607 => (w14_DagLast.l3 k5 t579 y582 x5_1 x6_19 x8_3 t592 t597 t598 t607 (wrap64 (x13_5 + 1)) l0_0 a0_1 a0_2 a0_3 a0_4 a0_5 a0_6 l0_7)) else (none)) = some r := by rw [if_pos rfl] at H; exact H
                     clear H
                     have H := H1
                     clear H1
                     by_cases c67 : 0 ≤ x13_5
                     ·rw [if_pos c67] at H
                      have c67b0 : decide (0 ≤ x13_5) = true := decide_eq_true c67
                      clear c67
                      replace H := Option.bind_eq_some_iff.mp H
                      obtain ⟨t607, A680, H⟩ := H
                      replace H : (w14_DagLast.l3 k5 t579 y582 x5_1 x6_19 x8_3 t592 t597 t598 t607 (wrap64 (x13_5 + 1)) l0_0 a0_1 a0_2 a0_3 a0_4 a0_5 a0_6 l0_7) = some r := H
                      have A68 := As_.mk A680
                      clear A680
                      have H' := As_.mk H
                      clear H
                      have p606 : 0 ≤ (x13_5 : Int) := of_decide_eq_true (by assumption)
                      have q606 : x13_5 < (x6_19.length : Int) := of_decide_eq_true (by assumption)
                      obtain ⟨ad606, e606, hx606_0⟩ := Kd.at_int (Kd.R_reads' HO_6.out).2.2 x13_5 p606 q606
                      cases e606
                      replace p606 := eq_true p606
                      replace q606 := eq_true q606
                      go_wp2_with (first | (go_at_call 35; (with_reducible refine (r0_Num.calls (rd x6_19 x13_5) 800 t607 _ A68.out).mono ?_); rintro e w' ⟨rfl, ⟨nd, rfl⟩⟩))
                      go_roundg k5
                      case measure => have := HK1.out; have := HJ19.out; have := HK3.out; have := HJ44.out; have := HK5.out; omega
                      case rel => exact ⟨(t607), (wrap64 (x13_5 + 1)), (by first | rfl | (simp; done) | (simp [*]; done) | (simp [wrap64]; done) | (congr 1; rw [Bool.eq_iff_iff]; simp; done)), (by first | rfl | (simp; done) | (simp [*]; done) | (simp [wrap64]; done) | (congr 1; rw [Bool.eq_iff_iff]; simp; done)), H', ⟨by have := HK1.out; have := HJ19.out; have := HK3.out; have := HJ44.out; have := HK5.out; omega⟩, ⟨by (with_reducible repeat (first | apply Kd.N_alloc | apply Kd.N_drewN | apply Kd.N_drew)); exact HO_3.out⟩, ⟨by (with_reducible repeat (first | apply Kd.R_alloc | apply Kd.R_drewN | apply Kd.R_drew)); exact HO_4.out⟩, ⟨by (with_reducible repeat (first | apply Kd.R_alloc | apply Kd.R_drewN | apply Kd.R_drew)); exact HO_6.out⟩, ⟨by (with_reducible repeat (first | apply Kd.R_alloc | apply Kd.R_drewN | apply Kd.R_drew)); exact HO_9.out⟩, ⟨by (with_reducible repeat (first | refine kN_ ?_ _ | refine kD_ ?_ | refine kA_ ?_ _)); exact BK577.out⟩, ⟨by repeat (first | (with_reducible exact HR595_0.out) | (with_reducible refine Kd.C_alloc ?_ _) | (with_reducible refine Kd.C_drewN ?_ _) | (with_reducible refine Kd.C_drew ?_) | exact HR595_0.out)⟩, ⟨by repeat (first | (with_reducible first | exact HB.out | apply bA_ | apply bN_ | apply b1_ | refine bS_ ?_ GE577.out) | exact HB.out)⟩⟩
                     rw [if_neg c67] at H
                     exact absurd H (by simp)
                    replace c66 := Bool.eq_false_iff.mpr c66
                    subst c66
                    have H1 : (w14_DagLast.l3 k5 t579 y582 x5_1 x6_19 x8_3 t592 t597 t598 false (wrap64 (x13_5 + 1)) l0_0 a0_1 a0_2 a0_3 a0_4 a0_5 a0_6 l0_7) = some r := by rw [if_neg (show ¬ (false = true) by decide)] at H; exact H
                    clear H
                    have H := H1
                    clear H1
                    have H' := As_.mk H
                    clear H
                    go_wp2
                    go_roundg k5
                    case measure => have := HK1.out; have := HJ19.out; have := HK3.out; have := HJ44.out; have := HK5.out; omega
                    case rel => exact ⟨(false), (wrap64 (x13_5 + 1)), (by first | rfl | (simp; done) | (simp [*]; done) | (simp [wrap64]; done) | (congr 1; rw [Bool.eq_iff_iff]; simp; done)), (by first | rfl | (simp; done) | (simp [*]; done) | (simp [wrap64]; done) | (congr 1; rw [Bool.eq_iff_iff]; simp; done)), H', ⟨by have := HK1.out; have := HJ19.out; have := HK3.out; have := HJ44.out; have := HK5.out; omega⟩, ⟨by (with_reducible repeat (first | apply Kd.N_alloc | apply Kd.N_drewN | apply Kd.N_drew)); exact HO_3.out⟩, ⟨by (with_reducible repeat (first | apply Kd.R_alloc | apply Kd.R_drewN | apply Kd.R_drew)); exact HO_4.out⟩, ⟨by (with_reducible repeat (first | apply Kd.R_alloc | apply Kd.R_drewN | apply Kd.R_drew)); exact HO_6.out⟩, ⟨by (with_reducible repeat (first | apply Kd.R_alloc | apply Kd.R_drewN | apply Kd.R_drew)); exact HO_9.out⟩, ⟨by (with_reducible repeat (first | refine kN_ ?_ _ | refine kD_ ?_ | refine kA_ ?_ _)); exact BK577.out⟩, ⟨by repeat (first | (with_reducible exact HR595_0.out) | (with_reducible refine Kd.C_alloc ?_ _) | (with_reducible refine Kd.C_drewN ?_ _) | (with_reducible refine Kd.C_drew ?_) | exact HR595_0.out)⟩, ⟨by repeat (first | (with_reducible first | exact HB.out | apply bA_ | apply bN_ | apply b1_ | refine bS_ ?_ GE577.out) | exact HB.out)⟩⟩
                   rw [if_neg c65] at H
                   have c65b0 : decide (x13_5 < (x6_19.length : Int)) = false := decide_eq_false c65
                   clear c65
                   have HC69 := As_.mk H
                   clear H
                   go_upto_if 130 with (fail)
                   go_cut [14, 15] (fun v14 v15 wc => ∃ (kq : Nat) (x14_68 : Int) (x15_68 : Int), v14 = .int .i64 x14_68 ∧ v15 = .int .i64 x15_68 ∧ As_ (w14_DagLast.j6 kq t579 y582 x5_1 x6_19 x8_3 t592 t597 t598 x14_68 x15_68 l0_0 a0_1 a0_2 a0_3 a0_4 a0_5 a0_6 l0_7 = some r) ∧ As_ (kq ≤ k5) ∧ As_ (Kd.N (Kd.slice 24 k24) 22 wc w.heap.size (fun k_ => some k_ ≠ ((.slice (some ad596) y582.length co46) : Value).ownBlock ∧ some k_ ≠ ((.slice Ao47 x6_19.length co47) : Value).ownBlock ∧ some k_ ≠ ((.slice Ao50 t592.length co50) : Value).ownBlock ∧ k_ ≠ gb577) (.slice (some ad586) t579.length co21) t579) ∧ As_ (Kd.R k24 24 wc w.heap.size (fun _ => True) (.slice (some ad596) y582.length co46) y582) ∧ As_ (Kd.R (Kd.int .i64) 3 wc w.heap.size (fun k_ => some k_ ≠ ((.slice Ao50 t592.length co50) : Value).ownBlock) (.slice Ao47 x6_19.length co47) x6_19) ∧ As_ (Kd.R (Kd.int .i64) 3 wc w.heap.size (fun k_ => some k_ ≠ ((.slice Ao47 x6_19.length co47) : Value).ownBlock) (.slice Ao50 t592.length co50) t592) ∧ As_ (wc.heap[gb577]? = some (.cells #[(.slice A0_0 l0_0.length c0_0), .int .i64 a0_1, .int .i64 a0_2, .int .i64 a0_3, .int .i64 a0_4, .int .i64 a0_5, .string a0_6, (.slice A0_7 l0_7.length c0_7)] 27 (0, 0))) ∧ As_ (Kd.C k24 wc A595_0 (rd_L5 t579 x5_1).length (rd_L5 t579 x5_1)) ∧ As_ (Below w.heap.size w wc))
                   case first =>
                    have H := HC69.out
                    clear HC69
                    by_cases c70 : x12_5 = true
                    ·subst c70
                     have H1 : (if 0 ≤ x5_1 then (if x5_1 < (t579.length : Int) then (if 0 ≤ x8_3 then (if x8_3 < (y582.length : Int) then ((r13_Last.f k5 (rd_L5 t579 x5_1) ((q24 y582 x8_3).f0) ((q24 y582 x8_3).f1) ((q24 y582 x8_3).f2) ((q24 y582 x8_3).f3) ((q24 y582 x8_3).f4) ((q24 y582 x8_3).f5) x6_19).bind fun t610 => (w14_DagLast.j6 k5 t579 y582 x5_1 x6_19 x8_3 t592 t597 t598 0 t610 l0_0 a0_1 a0_2 a0_3 a0_4 a0_5 a0_6 l0_7)) else (none)) else (none)) else (none)) else (none)) = some r := by rw [if_pos rfl] at H; exact H
                     clear H
                     have H := H1
                     clear H1
                     by_cases c71 : 0 ≤ x5_1
                     ·rw [if_pos c71] at H
                      have c71b0 : decide (0 ≤ x5_1) = true := decide_eq_true c71
                      clear c71
                      (first | rw [c71b0] | (simp only [i64_w, i32_w]; rw [c71b0]) | skip)
                      by_cases c72 : x5_1 < (t579.length : Int)
                      ·rw [if_pos c72] at H
                       have c72b0 : decide (x5_1 < (t579.length : Int)) = true := decide_eq_true c72
                       clear c72
                       by_cases c73 : 0 ≤ x8_3
                       ·rw [if_pos c73] at H
                        have c73b0 : decide (0 ≤ x8_3) = true := decide_eq_true c73
                        clear c73
                        by_cases c74 : x8_3 < (y582.length : Int)
                        ·rw [if_pos c74] at H
                         have c74b0 : decide (x8_3 < (y582.length : Int)) = true := decide_eq_true c74
                         clear c74
                         replace H := Option.bind_eq_some_iff.mp H
                         obtain ⟨t610, A750, H⟩ := H
                         replace H : (w14_DagLast.j6 k5 t579 y582 x5_1 x6_19 x8_3 t592 t597 t598 0 t610 l0_0 a0_1 a0_2 a0_3 a0_4 a0_5 a0_6 l0_7) = some r := H
                         have A75 := As_.mk A750
                         clear A750
                         have H' := As_.mk H
                         clear H
                         try go_wp2
                         have n0_ := As_.mk (Kd.N_drew HO_3.out)
                         have n1_ := As_.mk (Kd.R_drew HO_4.out)
                         have n2_ := As_.mk (Kd.R_drew HO_6.out)
                         have n3_ := As_.mk (Kd.R_drew HO_9.out)
                         have n4_ := As_.mk (kD_ BK577.out)
                         have n5_ := As_.mk (Kd.C_drew HR595_0.out)
                         have n6_ := As_.mk (b1_ HB.out)
                         clear HO_3
                         clear HO_4
                         clear HO_6
                         clear HO_9
                         clear BK577
                         clear HR595_0
                         clear HB
                         have HO_3 := n0_
                         have HO_4 := n1_
                         have HO_6 := n2_
                         have HO_9 := n3_
                         have BK577 := n4_
                         have HR595_0 := n5_
                         have HB := n6_
                         clear n0_ n1_ n2_ n3_ n4_ n5_ n6_
                         have p608 : 0 ≤ (x5_1 : Int) := of_decide_eq_true (by assumption)
                         have q608 : x5_1 < (t579.length : Int) := of_decide_eq_true (by assumption)
                         obtain ⟨ad608, A608_0, c608_0, e608, hx608_0, hl608_0, hi608_0⟩ := at_L5 (Kd.N_reads' HO_3.out).2.2 x5_1 p608 q608
                         obtain rfl : ad586 = ad608 := (by injection e608)
                         obtain ⟨ce608, hce608, hMe608, hcc608⟩ := Kd.N_get HO_3.out [] x5_1 p608 (by first | exact q608 | exact of_decide_eq_true (by assumption) | (have e_ := (Kd.N_reads' HO_3.out).1; omega))
                         obtain ⟨ua608_0, uc608_0, rfl, ul608_0, ge608_0⟩ := Kd.FK_slice_open hMe608
                         have hv608_0 := hcc608 0 _ rfl
                         rw [Nat.add_zero, show ((Kd.slice 24 k24)).sz = 1 from rfl, Nat.mul_one] at hv608_0
                         replace hv608_0 := Option.some.inj (hv608_0.symm.trans hx608_0)
                         injection hv608_0 with hva_ hvn_ hvc_
                         rw [hva_] at ge608_0
                         rw [hvc_] at ul608_0
                         have HL608_0 := As_.mk (show Kd.V k24 24 _ w.heap.size _ _ (rd_L5 t579 x5_1) from Kd.V_mk ul608_0 ge608_0)
                         clear hva_ hvn_ hvc_ ge608_0 ul608_0
                         clear hcc608 hce608
                         have HR608_0 := As_.mk hi608_0
                         have HC608_0 := As_.mk hl608_0
                         clear hi608_0 hl608_0
                         replace p608 := eq_true p608
                         replace q608 := eq_true q608
                         have p609 : 0 ≤ (x8_3 : Int) := of_decide_eq_true (by assumption)
                         have q609 : x8_3 < (y582.length : Int) := of_decide_eq_true (by assumption)
                         obtain ⟨ad609, e609, hx609_0, hx609_1, hx609_2, hx609_3, hx609_4, hx609_5⟩ := at_T24 (Kd.R_reads' HO_4.out).2.2 x8_3 p609 q609
                         obtain rfl : ad596 = ad609 := (by injection e609)
                         replace p609 := eq_true p609
                         replace q609 := eq_true q609
                         refine start_ (n := 12) (S := fun w' => w'.cell? (ad586.add (x5_1).toNat) = some (.slice A608_0 (rd_L5 t579 x5_1).length c608_0) ∧ w'.cell? (ad596.add ((x8_3).toNat * 6)) = some (.int .i64 ((q24 y582 x8_3).f0)) ∧ w'.cell? ⟨(ad596.add ((x8_3).toNat * 6)).block, (ad596.add ((x8_3).toNat * 6)).off + 1, none⟩ = some (.int .i64 ((q24 y582 x8_3).f1)) ∧ w'.cell? ⟨(ad596.add ((x8_3).toNat * 6)).block, (ad596.add ((x8_3).toNat * 6)).off + 2, none⟩ = some (.int .i64 ((q24 y582 x8_3).f2)) ∧ w'.cell? ⟨(ad596.add ((x8_3).toNat * 6)).block, (ad596.add ((x8_3).toNat * 6)).off + 3, none⟩ = some (.int .i64 ((q24 y582 x8_3).f3)) ∧ w'.cell? ⟨(ad596.add ((x8_3).toNat * 6)).block, (ad596.add ((x8_3).toNat * 6)).off + 4, none⟩ = some (.int .i64 ((q24 y582 x8_3).f4)) ∧ w'.cell? ⟨(ad596.add ((x8_3).toNat * 6)).block, (ad596.add ((x8_3).toNat * 6)).off + 5, none⟩ = some (.string ((q24 y582 x8_3).f5))) (ds := []) #[false, false, false, false, false, false, false, false, false, false, false, false] (by kernel_rfl) rfl (by kernel_rfl) ⟨hx608_0, hx609_0, hx609_1, hx609_2, hx609_3, hx609_4, hx609_5⟩ (fun hHeld => ?_); refine with_tabW w14_DagLast.tab25 w14_DagLast.bits25 (fun HT_ HW_ => ?_)
                         generalize wr.drew = w76 at HO_3 HO_4 HO_6 HO_9 BK577 HR595_0 HB HL608_0 HR608_0 hx608_0 hx609_0 hx609_1 hx609_2 hx609_3 hx609_4 hx609_5 hHeld ⊢
                         refine pure_ (i := 0) (N := some 131) (v := ?_) (a' := ?_) #[true, false, false, false, false, false, false, false, false, false, false, false] rfl rfl (any_of HT_.out (by kernel_rfl)) (fun _ _ _ h => h) (Or.inl ⟨by rfl, ?_⟩) ?_ ?_
                         rotate_left
                         ·intro w'
                          go_simp
                          with_reducible rfl
                         rotate_left
                         ·simp only [Act.put, List.setIfInBounds_toArray, List.set_cons_zero, List.set_cons_succ, i64_w, i32_w]
                          rfl
                         refine pure_ (i := 1) (N := some 132) (v := ?_) (a' := ?_) #[true, true, false, false, false, false, false, false, false, false, false, false] rfl rfl (any_of HT_.out (by kernel_rfl)) (fun _ _ _ h => h) (Or.inl ⟨by rfl, ?_⟩) ?_ ?_
                         rotate_left
                         ·intro w'
                          go_simp
                          with_reducible rfl
                         rotate_left
                         ·simp only [Act.put, List.setIfInBounds_toArray, List.set_cons_zero, List.set_cons_succ, i64_w, i32_w]
                          rfl
                         refine pure_ (i := 2) (N := some 133) (v := ?_) (a' := ?_) #[true, true, true, false, false, false, false, false, false, false, false, false] rfl rfl (any_of HT_.out (by kernel_rfl)) (fun _ _ _ h => h) (Or.inl ⟨by rfl, ?_⟩) ?_ ?_
                         rotate_left
                         ·intro w'
                          go_simp
                          with_reducible rfl
                         rotate_left
                         ·simp only [Act.put, List.setIfInBounds_toArray, List.set_cons_zero, List.set_cons_succ, i64_w, i32_w]
                          rfl
                         refine pure_ (i := 4) (N := some 135) (v := ?_) (a' := ?_) #[true, true, true, false, true, false, false, false, false, false, false, false] rfl rfl (any_of HT_.out (by kernel_rfl)) (fun _ _ _ h => h) (Or.inl ⟨by rfl, ?_⟩) ?_ ?_
                         rotate_left
                         ·intro w'
                          go_simp
                          with_reducible rfl
                         rotate_left
                         ·simp only [Act.put, List.setIfInBounds_toArray, List.set_cons_zero, List.set_cons_succ, i64_w, i32_w]
                          rfl
                         refine pure_ (i := 5) (N := some 136) (v := ?_) (a' := ?_) #[true, true, true, false, true, true, false, false, false, false, false, false] rfl rfl (any_of HT_.out (by kernel_rfl)) (fun _ _ _ h => h) (Or.inl ⟨by rfl, ?_⟩) ?_ ?_
                         rotate_left
                         ·intro w'
                          go_simp
                          with_reducible rfl
                         rotate_left
                         ·simp only [Act.put, List.setIfInBounds_toArray, List.set_cons_zero, List.set_cons_succ, i64_w, i32_w]
                          rfl
                         refine pure_ (i := 6) (N := some 137) (v := ?_) (a' := ?_) #[true, true, true, false, true, true, true, false, false, false, false, false] rfl rfl (any_of HT_.out (by kernel_rfl)) (fun _ _ _ h => h) (Or.inl ⟨by rfl, ?_⟩) ?_ ?_
                         rotate_left
                         ·intro w'
                          go_simp
                          with_reducible rfl
                         rotate_left
                         ·simp only [Act.put, List.setIfInBounds_toArray, List.set_cons_zero, List.set_cons_succ, i64_w, i32_w]
                          rfl
                         refine pure_ (i := 8) (N := some 139) (v := ?_) (a' := ?_) #[true, true, true, false, true, true, true, false, true, false, false, false] rfl rfl (any_of HT_.out (by kernel_rfl)) (fun _ _ _ h => h) (Or.inl ⟨by rfl, ?_⟩) ?_ ?_
                         rotate_left
                         ·intro w'
                          go_simp
                          with_reducible rfl
                         rotate_left
                         ·simp only [Act.put, List.setIfInBounds_toArray, List.set_cons_zero, List.set_cons_succ, i64_w, i32_w]
                          rfl
                         refine take_ (i := 3) (N := some 134) (v := ?_) (a' := ?_) #[true, true, true, true, true, true, true, false, true, false, false, false] rfl rfl (take_ofW HT_.out HW_.out (by kernel_rfl)) (fun _ _ _ h => h) (Or.inl ⟨by rfl, ?_⟩) hHeld ?_ ?_
                         rotate_left
                         ·rintro w' ⟨s0, s1, s2, s3, s4, s5, s6⟩
                          go_simp
                          with_reducible rfl
                         rotate_left
                         ·simp only [Act.put, List.setIfInBounds_toArray, List.set_cons_zero, List.set_cons_succ, i64_w, i32_w]
                          rfl
                         refine take_ (i := 7) (N := some 138) (v := ?_) (a' := ?_) #[true, true, true, true, true, true, true, true, true, false, false, false] rfl rfl (take_ofW HT_.out HW_.out (by kernel_rfl)) (fun _ _ _ h => h) (Or.inl ⟨by rfl, ?_⟩) hHeld ?_ ?_
                         rotate_left
                         ·rintro w' ⟨s0, s1, s2, s3, s4, s5, s6⟩
                          go_simp
                          with_reducible rfl
                         rotate_left
                         ·simp only [Act.put, List.setIfInBounds_toArray, List.set_cons_zero, List.set_cons_succ, i64_w, i32_w]
                          rfl
                         refine one_ (i := 9) (N := some 140) #[true, true, true, true, true, true, true, true, true, true, false, false] rfl rfl (one_of HT_.out (by kernel_rfl)) (by decide) (fun K hK => ?_)
                         refine goes_ Try.func41 (by kernel_rfl) rfl #[.slice A608_0 (rd_L5 t579 x5_1).length c608_0, .agg #[.int .i64 ((q24 y582 x8_3).f0), .int .i64 ((q24 y582 x8_3).f1), .int .i64 ((q24 y582 x8_3).f2), .int .i64 ((q24 y582 x8_3).f3), .int .i64 ((q24 y582 x8_3).f4), .string ((q24 y582 x8_3).f5)], .slice Ao47 x6_19.length co47] (by rfl) rfl rfl (by (try simp only [List.map_toArray, List.map_cons, List.map_nil]); first | done | rfl) ?_
                         with_reducible refine (r13_Last.calls k5 _ _ (rd_L5 t579 x5_1) ((q24 y582 x8_3).f0) ((q24 y582 x8_3).f1) ((q24 y582 x8_3).f2) ((q24 y582 x8_3).f3) ((q24 y582 x8_3).f4) ((q24 y582 x8_3).f5) _ _ x6_19 t610 _ ?side1 ?side2 ?side3 ?side4 A75.out).mono ?_
                         (case side1 => repeat (first | exact (by repeat (first | (with_reducible exact HR608_0.out) | (with_reducible refine Kd.C_alloc ?_ _) | (with_reducible refine Kd.C_drewN ?_ _) | (with_reducible refine Kd.C_drew ?_) | exact HR608_0.out)) | (with_reducible refine Kd.C_alloc ?_ _) | (with_reducible refine Kd.C_drewN ?_ _) | (with_reducible refine Kd.C_drew ?_)))
                         (case side2 => exact HC608_0.out)
                         (case side3 => repeat (first | exact (Kd.R_reads' HO_6.out).2.2 | (with_reducible refine Kd.C_alloc ?_ _) | (with_reducible refine Kd.C_drewN ?_ _) | (with_reducible refine Kd.C_drew ?_)))
                         (case side4 => exact (Kd.R_reads' HO_6.out).2.1)
                         rintro e w77 ⟨rfl, hb⟩
                         have HS0_ := (hb.cell (World.block_lt_of_cell? _ _ (hHeld.1))).trans (hHeld.1)
                         have HS1_ := (hb.cell (World.block_lt_of_cell? _ _ (hHeld.2.1))).trans (hHeld.2.1)
                         have HS2_ := (hb.cell (World.block_lt_of_cell? _ _ (hHeld.2.2.1))).trans (hHeld.2.2.1)
                         have HS3_ := (hb.cell (World.block_lt_of_cell? _ _ (hHeld.2.2.2.1))).trans (hHeld.2.2.2.1)
                         have HS4_ := (hb.cell (World.block_lt_of_cell? _ _ (hHeld.2.2.2.2.1))).trans (hHeld.2.2.2.2.1)
                         have HS5_ := (hb.cell (World.block_lt_of_cell? _ _ (hHeld.2.2.2.2.2.1))).trans (hHeld.2.2.2.2.2.1)
                         have HS6_ := (hb.cell (World.block_lt_of_cell? _ _ (hHeld.2.2.2.2.2.2))).trans (hHeld.2.2.2.2.2.2)
                         refine ⟨_, rfl, ?_⟩
                         have n0_ := As_.mk (Kd.N_below (by (with_reducible repeat (first | apply Kd.N_alloc | apply Kd.N_drewN | apply Kd.N_drew)); exact HO_3.out) hb)
                         have n1_ := As_.mk (Kd.R_below (by (with_reducible repeat (first | apply Kd.R_alloc | apply Kd.R_drewN | apply Kd.R_drew)); exact HO_4.out) hb)
                         have n2_ := As_.mk (Kd.R_below (by (with_reducible repeat (first | apply Kd.R_alloc | apply Kd.R_drewN | apply Kd.R_drew)); exact HO_6.out) hb)
                         have n3_ := As_.mk (Kd.R_below (by (with_reducible repeat (first | apply Kd.R_alloc | apply Kd.R_drewN | apply Kd.R_drew)); exact HO_9.out) hb)
                         have n4_ := As_.mk (Kd.V_below (by (with_reducible repeat (first | apply Kd.V_alloc | apply Kd.V_drewN | apply Kd.V_drew)); exact HL608_0.out) hb)
                         have n5_ := As_.mk (kB_ (g := gb577) (o := .cells #[.slice A0_0 l0_0.length c0_0, .int .i64 a0_1, .int .i64 a0_2, .int .i64 a0_3, .int .i64 a0_4, .int .i64 a0_5, .string a0_6, .slice A0_7 l0_7.length c0_7] 27 (0, 0)) (by (with_reducible repeat (first | refine kN_ ?_ _ | refine kD_ ?_ | refine kA_ ?_ _)); exact BK577.out) hb)
                         have n6_ := As_.mk (Kd.C_below (by repeat (first | (with_reducible exact HR595_0.out) | (with_reducible refine Kd.C_alloc ?_ _) | (with_reducible refine Kd.C_drewN ?_ _) | (with_reducible refine Kd.C_drew ?_) | exact HR595_0.out)) hb)
                         have n7_ := As_.mk (Kd.C_below (by repeat (first | (with_reducible exact HR608_0.out) | (with_reducible refine Kd.C_alloc ?_ _) | (with_reducible refine Kd.C_drewN ?_ _) | (with_reducible refine Kd.C_drew ?_) | exact HR608_0.out)) hb)
                         have n8_ := As_.mk (bT_ (by repeat (first | (with_reducible first | exact HB.out | apply bA_ | apply bN_ | apply b1_ | refine bS_ ?_ GE577.out) | exact HB.out)) hb)
                         clear HO_3
                         clear HO_4
                         clear HO_6
                         clear HO_9
                         clear HL608_0
                         clear BK577
                         clear HR595_0
                         clear HR608_0
                         clear HB
                         have HO_3 := n0_
                         have HO_4 := n1_
                         have HO_6 := n2_
                         have HO_9 := n3_
                         have HL608_0 := n4_
                         have BK577 := n5_
                         have HR595_0 := n6_
                         have HR608_0 := n7_
                         have HB := n8_
                         clear n0_ n1_ n2_ n3_ n4_ n5_ n6_ n7_ n8_
                         refine hK.out _ _ ⟨HS0_, HS1_, HS2_, HS3_, HS4_, HS5_, HS6_⟩ (fun hHeld => ?_)
                         clear hK K
                         refine norm_ (a' := ?_) ?_ ?_
                         rotate_left
                         ·show Act.put _ (some 140) _ = _
                          simp only [Act.put, List.setIfInBounds_toArray, List.set_cons_zero, List.set_cons_succ, i64_w, i32_w]
                          rfl
                         refine pure_ (i := 10) (N := some 14) (v := ?_) (a' := ?_) #[true, true, true, true, true, true, true, true, true, true, true, false] rfl rfl (any_of HT_.out (by kernel_rfl)) (fun _ _ _ h => h) (Or.inl ⟨by rfl, ?_⟩) ?_ ?_
                         rotate_left
                         ·intro w'
                          go_simp
                          with_reducible rfl
                         rotate_left
                         ·simp only [Act.put, List.setIfInBounds_toArray, List.set_cons_zero, List.set_cons_succ, i64_w, i32_w]
                          rfl
                         refine pure_ (i := 11) (N := some 15) (v := ?_) (a' := ?_) #[true, true, true, true, true, true, true, true, true, true, true, true] rfl rfl (any_of HT_.out (by kernel_rfl)) (fun _ _ _ h => h) (Or.inl ⟨by rfl, ?_⟩) ?_ ?_
                         rotate_left
                         ·intro w'
                          go_simp
                          with_reducible rfl
                         rotate_left
                         ·simp only [Act.put, List.setIfInBounds_toArray, List.set_cons_zero, List.set_cons_succ, i64_w, i32_w]
                          rfl
                         refine done_ (done_of HT_.out (by kernel_rfl)) ?_
                         try go_wp2
                         go_meet
                         case rel => exact ⟨_, (0), (t610), (by first | rfl | (simp; done) | (simp [*]; done) | (simp [wrap64]; done) | (congr 1; rw [Bool.eq_iff_iff]; simp; done)), (by first | rfl | (simp; done) | (simp [*]; done) | (simp [wrap64]; done) | (congr 1; rw [Bool.eq_iff_iff]; simp; done)), H', ⟨by have := HK1.out; have := HJ19.out; have := HK3.out; have := HJ44.out; have := HK5.out; first | omega | exact Nat.le_refl _⟩, ⟨by (with_reducible repeat (first | apply Kd.N_alloc | apply Kd.N_drewN | apply Kd.N_drew)); exact HO_3.out⟩, ⟨by (with_reducible repeat (first | apply Kd.R_alloc | apply Kd.R_drewN | apply Kd.R_drew)); exact HO_4.out⟩, ⟨by (with_reducible repeat (first | apply Kd.R_alloc | apply Kd.R_drewN | apply Kd.R_drew)); exact HO_6.out⟩, ⟨by (with_reducible repeat (first | apply Kd.R_alloc | apply Kd.R_drewN | apply Kd.R_drew)); exact HO_9.out⟩, ⟨by (with_reducible repeat (first | refine kN_ ?_ _ | refine kD_ ?_ | refine kA_ ?_ _)); exact BK577.out⟩, ⟨by repeat (first | (with_reducible exact HR595_0.out) | (with_reducible refine Kd.C_alloc ?_ _) | (with_reducible refine Kd.C_drewN ?_ _) | (with_reducible refine Kd.C_drew ?_) | exact HR595_0.out)⟩, ⟨by repeat (first | (with_reducible first | exact HB.out | apply bA_ | apply bN_ | apply b1_ | refine bS_ ?_ GE577.out) | exact HB.out)⟩⟩
                        rw [if_neg c74] at H
                        exact absurd H (by simp)
                       rw [if_neg c73] at H
                       exact absurd H (by simp)
                      rw [if_neg c72] at H
                      exact absurd H (by simp)
                     rw [if_neg c71] at H
                     exact absurd H (by simp)
                    replace c70 := Bool.eq_false_iff.mpr c70
                    subst c70
                    have H1 : (w14_DagLast.j6 k5 t579 y582 x5_1 x6_19 x8_3 t592 t597 t598 1 0 l0_0 a0_1 a0_2 a0_3 a0_4 a0_5 a0_6 l0_7) = some r := by rw [if_neg (show ¬ (false = true) by decide)] at H; exact H
                    clear H
                    have H := H1
                    clear H1
                    have H' := As_.mk H
                    clear H
                    go_wp2
                    go_meet
                    case rel => exact ⟨_, (1), (0), (by first | rfl | (simp; done) | (simp [*]; done) | (simp [wrap64]; done) | (congr 1; rw [Bool.eq_iff_iff]; simp; done)), (by first | rfl | (simp; done) | (simp [*]; done) | (simp [wrap64]; done) | (congr 1; rw [Bool.eq_iff_iff]; simp; done)), H', ⟨by have := HK1.out; have := HJ19.out; have := HK3.out; have := HJ44.out; have := HK5.out; first | omega | exact Nat.le_refl _⟩, ⟨by (with_reducible repeat (first | apply Kd.N_alloc | apply Kd.N_drewN | apply Kd.N_drew)); exact HO_3.out⟩, ⟨by (with_reducible repeat (first | apply Kd.R_alloc | apply Kd.R_drewN | apply Kd.R_drew)); exact HO_4.out⟩, ⟨by (with_reducible repeat (first | apply Kd.R_alloc | apply Kd.R_drewN | apply Kd.R_drew)); exact HO_6.out⟩, ⟨by (with_reducible repeat (first | apply Kd.R_alloc | apply Kd.R_drewN | apply Kd.R_drew)); exact HO_9.out⟩, ⟨by (with_reducible repeat (first | refine kN_ ?_ _ | refine kD_ ?_ | refine kA_ ?_ _)); exact BK577.out⟩, ⟨by repeat (first | (with_reducible exact HR595_0.out) | (with_reducible refine Kd.C_alloc ?_ _) | (with_reducible refine Kd.C_drewN ?_ _) | (with_reducible refine Kd.C_drew ?_) | exact HR595_0.out)⟩, ⟨by repeat (first | (with_reducible first | exact HB.out | apply bA_ | apply bN_ | apply b1_ | refine bS_ ?_ GE577.out) | exact HB.out)⟩⟩
                   case rest =>
                    clear HC69
                    try (try clear hHeld); (try clear HS0_); (try clear HS1_); (try clear HS2_); (try clear HS3_); (try clear HS4_); (try clear HS5_); (try clear HS6_)
                    obtain ⟨kq, x14_68, x15_68, rfl, rfl, HA, HJ68, HO_3, HO_4, HO_6, HO_9, BK577, HR595_0, HB⟩ := hcut
                    cases kq with
                    | zero => exact absurd HA.out (by simp [w14_DagLast.j6])
                    | succ kj68 =>
                     have H := HA.out
                     clear HA
                     simp only [w14_DagLast.j6] at H
                     have HC78 := As_.mk H
                     clear H
                     go_upto_region 26 with (fail)
                     go_cut [155] (fun v155 wc => ∃ (kq : Nat) (x155_77 : Bool), v155 = .bool x155_77 ∧ As_ (w14_DagLast.j7 kq t579 y582 x5_1 x6_19 x8_3 x155_77 l0_0 a0_1 a0_2 a0_3 a0_4 a0_5 a0_6 l0_7 = some r) ∧ As_ (kq ≤ kj68) ∧ As_ (Kd.N (Kd.slice 24 k24) 22 wc w.heap.size (fun k_ => some k_ ≠ ((.slice (some ad596) y582.length co46) : Value).ownBlock ∧ some k_ ≠ ((.slice Ao47 x6_19.length co47) : Value).ownBlock ∧ k_ ≠ gb577) (.slice (some ad586) t579.length co21) t579) ∧ As_ (Kd.R k24 24 wc w.heap.size (fun _ => True) (.slice (some ad596) y582.length co46) y582) ∧ As_ (Kd.R (Kd.int .i64) 3 wc w.heap.size (fun _ => True) (.slice Ao47 x6_19.length co47) x6_19) ∧ As_ (wc.heap[gb577]? = some (.cells #[(.slice A0_0 l0_0.length c0_0), .int .i64 a0_1, .int .i64 a0_2, .int .i64 a0_3, .int .i64 a0_4, .int .i64 a0_5, .string a0_6, (.slice A0_7 l0_7.length c0_7)] 27 (0, 0))) ∧ As_ (Kd.C k24 wc A595_0 (rd_L5 t579 x5_1).length (rd_L5 t579 x5_1)) ∧ As_ (Below w.heap.size w wc))
                     case first =>
                      have H := HC78.out
                      clear HC78
                      replace H := Option.bind_eq_some_iff.mp H
                      obtain ⟨t611, A790, H⟩ := H
                      replace H : (if t611 = x14_68 then (if t597 = x15_68 then ((r0_EqNumbers.f kj68 t592 x6_19).bind fun t612 => (w14_DagLast.j7 kj68 t579 y582 x5_1 x6_19 x8_3 (!t612) l0_0 a0_1 a0_2 a0_3 a0_4 a0_5 a0_6 l0_7)) else (w14_DagLast.j7 kj68 t579 y582 x5_1 x6_19 x8_3 true l0_0 a0_1 a0_2 a0_3 a0_4 a0_5 a0_6 l0_7)) else (w14_DagLast.j7 kj68 t579 y582 x5_1 x6_19 x8_3 true l0_0 a0_1 a0_2 a0_3 a0_4 a0_5 a0_6 l0_7)) = some r := H
                      have A79 := As_.mk A790
                      clear A790
                      by_cases c80 : t611 = x14_68
                      ·rw [if_pos c80] at H
                       have c80b0 : (t611 == x14_68) = true := beq_iff_eq.mpr c80
                       have c80b1 : (t611 != x14_68) = false := bne_eq_false_iff_eq.mpr c80
                       clear c80
                       (first | rw [c80b0] | (simp only [i64_w, i32_w]; rw [c80b0]) | skip)
                       by_cases c81 : t597 = x15_68
                       ·rw [if_pos c81] at H
                        have c81b0 : (t597 == x15_68) = true := beq_iff_eq.mpr c81
                        have c81b1 : (t597 != x15_68) = false := bne_eq_false_iff_eq.mpr c81
                        clear c81
                        replace H := Option.bind_eq_some_iff.mp H
                        obtain ⟨t612, A820, H⟩ := H
                        replace H : (w14_DagLast.j7 kj68 t579 y582 x5_1 x6_19 x8_3 (!t612) l0_0 a0_1 a0_2 a0_3 a0_4 a0_5 a0_6 l0_7) = some r := H
                        have A82 := As_.mk A820
                        clear A820
                        have H' := As_.mk H
                        clear H
                        go_wp2_with (first | ((with_reducible refine gC_ (f := 21) rfl ?_); refine goesL_ (some 142) rfl rfl Try.func21 (by kernel_rfl) rfl #[.int .i64 t598] rfl (by (try simp only [List.map_toArray, List.map_cons, List.map_nil]); first | done | rfl) ?_; (with_reducible refine (w14_num.calls t598 t611 _ A79.out).mono ?_); rintro e w' ⟨rfl, ⟨nd, rfl⟩⟩; refine ⟨_, rfl, ?_⟩) | (go_at_call 24; (with_reducible refine (r0_EqNumbers.calls kj68 _ _ t592 _ _ x6_19 t612 _ ?side1 ?side2 ?side3 ?side4 A82.out).mono ?_); (case side1 => repeat (first | exact (Kd.R_reads' HO_9.out).2.2 | (with_reducible refine Kd.C_alloc ?_ _) | (with_reducible refine Kd.C_drewN ?_ _) | (with_reducible refine Kd.C_drew ?_))); (case side2 => exact (Kd.R_reads' HO_9.out).2.1); (case side3 => repeat (first | exact (Kd.R_reads' HO_6.out).2.2 | (with_reducible refine Kd.C_alloc ?_ _) | (with_reducible refine Kd.C_drewN ?_ _) | (with_reducible refine Kd.C_drew ?_))); (case side4 => exact (Kd.R_reads' HO_6.out).2.1); rintro e w' ⟨rfl, ⟨nd, rfl⟩⟩))
                        go_meet
                        case rel => exact ⟨_, (!t612), (by first | rfl | (simp; done) | (simp [*]; done) | (simp [wrap64]; done) | (congr 1; rw [Bool.eq_iff_iff]; simp; done)), H', ⟨by have := HK1.out; have := HJ19.out; have := HK3.out; have := HJ44.out; have := HK5.out; have := HJ68.out; first | omega | exact Nat.le_refl _⟩, ⟨by (with_reducible repeat (first | apply Kd.N_alloc | apply Kd.N_drewN | apply Kd.N_drew)); exact Kd.N_mono HO_3.out (fun _ hk => ⟨hk.1, ⟨hk.2.1, hk.2.2.2⟩⟩)⟩, ⟨by (with_reducible repeat (first | apply Kd.R_alloc | apply Kd.R_drewN | apply Kd.R_drew)); exact HO_4.out⟩, ⟨by (with_reducible repeat (first | apply Kd.R_alloc | apply Kd.R_drewN | apply Kd.R_drew)); exact Kd.R_mono HO_6.out (fun _ hk => trivial)⟩, ⟨by (with_reducible repeat (first | refine kN_ ?_ _ | refine kD_ ?_ | refine kA_ ?_ _)); exact BK577.out⟩, ⟨by repeat (first | (with_reducible exact HR595_0.out) | (with_reducible refine Kd.C_alloc ?_ _) | (with_reducible refine Kd.C_drewN ?_ _) | (with_reducible refine Kd.C_drew ?_) | exact HR595_0.out)⟩, ⟨by repeat (first | (with_reducible first | exact HB.out | apply bA_ | apply bN_ | apply b1_ | refine bS_ ?_ GE577.out) | exact HB.out)⟩⟩
                       rw [if_neg c81] at H
                       have c81b0 : (t597 == x15_68) = false := beq_eq_false_iff_ne.mpr c81
                       have c81b1 : (t597 != x15_68) = true := bne_iff_ne.mpr c81
                       have H' := As_.mk H
                       clear H
                       go_wp2_with (first | ((with_reducible refine gC_ (f := 21) rfl ?_); refine goesL_ (some 142) rfl rfl Try.func21 (by kernel_rfl) rfl #[.int .i64 t598] rfl (by (try simp only [List.map_toArray, List.map_cons, List.map_nil]); first | done | rfl) ?_; (with_reducible refine (w14_num.calls t598 t611 _ A79.out).mono ?_); rintro e w' ⟨rfl, ⟨nd, rfl⟩⟩; refine ⟨_, rfl, ?_⟩))
                       go_meet
                       case rel => exact ⟨_, (true), (by first | rfl | (simp; done) | (simp [*]; done) | (simp [wrap64]; done) | (congr 1; rw [Bool.eq_iff_iff]; simp; done)), H', ⟨by have := HK1.out; have := HJ19.out; have := HK3.out; have := HJ44.out; have := HK5.out; have := HJ68.out; first | omega | exact Nat.le_refl _⟩, ⟨by (with_reducible repeat (first | apply Kd.N_alloc | apply Kd.N_drewN | apply Kd.N_drew)); exact Kd.N_mono HO_3.out (fun _ hk => ⟨hk.1, ⟨hk.2.1, hk.2.2.2⟩⟩)⟩, ⟨by (with_reducible repeat (first | apply Kd.R_alloc | apply Kd.R_drewN | apply Kd.R_drew)); exact HO_4.out⟩, ⟨by (with_reducible repeat (first | apply Kd.R_alloc | apply Kd.R_drewN | apply Kd.R_drew)); exact Kd.R_mono HO_6.out (fun _ hk => trivial)⟩, ⟨by (with_reducible repeat (first | refine kN_ ?_ _ | refine kD_ ?_ | refine kA_ ?_ _)); exact BK577.out⟩, ⟨by repeat (first | (with_reducible exact HR595_0.out) | (with_reducible refine Kd.C_alloc ?_ _) | (with_reducible refine Kd.C_drewN ?_ _) | (with_reducible refine Kd.C_drew ?_) | exact HR595_0.out)⟩, ⟨by repeat (first | (with_reducible first | exact HB.out | apply bA_ | apply bN_ | apply b1_ | refine bS_ ?_ GE577.out) | exact HB.out)⟩⟩
                      rw [if_neg c80] at H
                      have c80b0 : (t611 == x14_68) = false := beq_eq_false_iff_ne.mpr c80
                      have c80b1 : (t611 != x14_68) = true := bne_iff_ne.mpr c80
                      (first | rw [c80b0] | (simp only [i64_w, i32_w]; rw [c80b0]) | skip)
                      have H' := As_.mk H
                      clear H
                      go_wp2_with (first | ((with_reducible refine gC_ (f := 21) rfl ?_); refine goesL_ (some 142) rfl rfl Try.func21 (by kernel_rfl) rfl #[.int .i64 t598] rfl (by (try simp only [List.map_toArray, List.map_cons, List.map_nil]); first | done | rfl) ?_; (with_reducible refine (w14_num.calls t598 t611 _ A79.out).mono ?_); rintro e w' ⟨rfl, ⟨nd, rfl⟩⟩; refine ⟨_, rfl, ?_⟩))
                      go_meet
                      case rel => exact ⟨_, (true), (by first | rfl | (simp; done) | (simp [*]; done) | (simp [wrap64]; done) | (congr 1; rw [Bool.eq_iff_iff]; simp; done)), H', ⟨by have := HK1.out; have := HJ19.out; have := HK3.out; have := HJ44.out; have := HK5.out; have := HJ68.out; first | omega | exact Nat.le_refl _⟩, ⟨by (with_reducible repeat (first | apply Kd.N_alloc | apply Kd.N_drewN | apply Kd.N_drew)); exact Kd.N_mono HO_3.out (fun _ hk => ⟨hk.1, ⟨hk.2.1, hk.2.2.2⟩⟩)⟩, ⟨by (with_reducible repeat (first | apply Kd.R_alloc | apply Kd.R_drewN | apply Kd.R_drew)); exact HO_4.out⟩, ⟨by (with_reducible repeat (first | apply Kd.R_alloc | apply Kd.R_drewN | apply Kd.R_drew)); exact Kd.R_mono HO_6.out (fun _ hk => trivial)⟩, ⟨by (with_reducible repeat (first | refine kN_ ?_ _ | refine kD_ ?_ | refine kA_ ?_ _)); exact BK577.out⟩, ⟨by repeat (first | (with_reducible exact HR595_0.out) | (with_reducible refine Kd.C_alloc ?_ _) | (with_reducible refine Kd.C_drewN ?_ _) | (with_reducible refine Kd.C_drew ?_) | exact HR595_0.out)⟩, ⟨by repeat (first | (with_reducible first | exact HB.out | apply bA_ | apply bN_ | apply b1_ | refine bS_ ?_ GE577.out) | exact HB.out)⟩⟩
                     case rest =>
                      clear HC78
                      try (try clear hHeld); (try clear HS0_); (try clear HS1_); (try clear HS2_); (try clear HS3_); (try clear HS4_); (try clear HS5_); (try clear HS6_)
                      obtain ⟨kq, x155_77, rfl, HA, HJ77, HO_3, HO_4, HO_6, BK577, HR595_0, HB⟩ := hcut
                      cases kq with
                      | zero => exact absurd HA.out (by simp [w14_DagLast.j7])
                      | succ kj77 =>
                       have H := HA.out
                       clear HA
                       simp only [w14_DagLast.j7] at H
                       by_cases c83 : x155_77 = true
                       ·subst c83
                        have H1 : (some false) = some r := by rw [if_pos rfl] at H; exact H
                        clear H
                        have H := H1
                        clear H1
                        obtain rfl := Option.some.inj H
                        go_wp2
                        go_ret
                        exact ⟨by first | rfl | (simp [eN_, eS_] <;> rfl) | (simp [*, eN_, eS_] <;> rfl), by repeat (first | (with_reducible first | exact HB.out | apply bA_ | apply bN_ | apply b1_ | refine bS_ ?_ GE577.out) | exact HB.out)⟩
                       replace c83 := Bool.eq_false_iff.mpr c83
                       subst c83
                       have H1 : (w14_DagLast.l2 kj77 t579 y582 x5_1 x6_19 (wrap64 (x8_3 + 1)) l0_0 a0_1 a0_2 a0_3 a0_4 a0_5 a0_6 l0_7) = some r := by rw [if_neg (show ¬ (false = true) by decide)] at H; exact H
                       clear H
                       have H := H1
                       clear H1
                       have H' := As_.mk H
                       clear H
                       go_wp2
                       go_roundg kj77
                       case measure => have := HK1.out; have := HJ19.out; have := HK3.out; have := HJ44.out; have := HK5.out; have := HJ68.out; have := HJ77.out; omega
                       case rel => exact ⟨(wrap64 (x8_3 + 1)), (by first | rfl | (simp; done) | (simp [*]; done) | (simp [wrap64]; done) | (congr 1; rw [Bool.eq_iff_iff]; simp; done)), H', ⟨by have := HK1.out; have := HJ19.out; have := HK3.out; have := HJ44.out; have := HK5.out; have := HJ68.out; have := HJ77.out; omega⟩, ⟨by (with_reducible repeat (first | apply Kd.N_alloc | apply Kd.N_drewN | apply Kd.N_drew)); exact HO_3.out⟩, ⟨by (with_reducible repeat (first | apply Kd.R_alloc | apply Kd.R_drewN | apply Kd.R_drew)); exact HO_4.out⟩, ⟨by (with_reducible repeat (first | apply Kd.R_alloc | apply Kd.R_drewN | apply Kd.R_drew)); exact HO_6.out⟩, ⟨by (with_reducible repeat (first | refine kN_ ?_ _ | refine kD_ ?_ | refine kA_ ?_ _)); exact BK577.out⟩, ⟨by repeat (first | (with_reducible first | exact HB.out | apply bA_ | apply bN_ | apply b1_ | refine bS_ ?_ GE577.out) | exact HB.out)⟩⟩
              rw [if_neg c43] at H
              exact absurd H (by simp)
             rw [if_neg c42] at H
             exact absurd H (by simp)
            rw [if_neg c41] at H
            exact absurd H (by simp)
           rw [if_neg c39] at H
           have c39b0 : decide (x8_3 < (y582.length : Int)) = false := decide_eq_false c39
           clear c39
           by_cases c84 : 0 ≤ x5_1
           ·rw [if_pos c84] at H
            have c84b0 : decide (0 ≤ x5_1) = true := decide_eq_true c84
            clear c84
            by_cases c85 : x5_1 < (t579.length : Int)
            ·rw [if_pos c85] at H
             have c85b0 : decide (x5_1 < (t579.length : Int)) = true := decide_eq_true c85
             clear c85
             replace H := Option.bind_eq_some_iff.mp H
             obtain ⟨t614, A860, H⟩ := H
             replace H : ((some (([0] : List Int) : List Int)).bind fun y617 => (if t614.length + y617.length < 17592186044416 then ((dag_Last.f k3 (rd_L5 t579 x5_1) 0 0 0 0 0 (⟨#[]⟩ : ByteArray) (t614 ++ y617)).bind fun bt623 => ((w14_num.f bt623.2).bind fun t625 => (if t625 = 1 then (w14_DagLast.l0 k3 t579 y582 (wrap64 (x5_1 + 1)) l0_0 a0_1 a0_2 a0_3 a0_4 a0_5 a0_6 l0_7) else (some false)))) else (none))) = some r := H
             have A86 := As_.mk A860
             clear A860
             obtain ⟨y617, hy617⟩ : ∃ y_ : List Int, y_ = (([0] : List Int)) := ⟨_, rfl⟩
             replace H : (if t614.length + y617.length < 17592186044416 then ((dag_Last.f k3 (rd_L5 t579 x5_1) 0 0 0 0 0 (⟨#[]⟩ : ByteArray) (t614 ++ y617)).bind fun bt623 => ((w14_num.f bt623.2).bind fun t625 => (if t625 = 1 then (w14_DagLast.l0 k3 t579 y582 (wrap64 (x5_1 + 1)) l0_0 a0_1 a0_2 a0_3 a0_4 a0_5 a0_6 l0_7) else (some false)))) else (none)) = some r := by first | (rw [hy617]; with_reducible exact H) | (have H2_ := (Option.bind_some _ _).symm.trans H; rw [hy617]; with_reducible exact H2_) | (have H2_ := (Option.bind_some _ _).symm.trans H; with_reducible exact H2_) | with_reducible exact H | (rw [hy617]; exact H) | exact H
             have Ny617 := As_.mk hy617
             clear hy617
             by_cases c87 : t614.length + y617.length < 17592186044416
             ·rw [if_pos c87] at H
              have LMc87 := As_.mk c87
              clear c87
              obtain ⟨y620, hy620⟩ : ∃ y_ : List Int, y_ = (t614 ++ y617) := ⟨_, rfl⟩
              replace H : ((dag_Last.f k3 (rd_L5 t579 x5_1) 0 0 0 0 0 (⟨#[]⟩ : ByteArray) y620).bind fun bt623 => ((w14_num.f bt623.2).bind fun t625 => (if t625 = 1 then (w14_DagLast.l0 k3 t579 y582 (wrap64 (x5_1 + 1)) l0_0 a0_1 a0_2 a0_3 a0_4 a0_5 a0_6 l0_7) else (some false)))) = some r := by first | (rw [hy620]; with_reducible exact H) | (have H2_ := (Option.bind_some _ _).symm.trans H; rw [hy620]; with_reducible exact H2_) | (have H2_ := (Option.bind_some _ _).symm.trans H; with_reducible exact H2_) | with_reducible exact H | (rw [hy620]; exact H) | exact H
              have Ny620 := As_.mk hy620
              clear hy620
              replace H := Option.bind_eq_some_iff.mp H
              obtain ⟨⟨t623, t624⟩, A880, H⟩ := H
              replace H : ((w14_num.f t624).bind fun t625 => (if t625 = 1 then (w14_DagLast.l0 k3 t579 y582 (wrap64 (x5_1 + 1)) l0_0 a0_1 a0_2 a0_3 a0_4 a0_5 a0_6 l0_7) else (some false))) = some r := H
              have A88 := As_.mk A880
              clear A880
              replace H := Option.bind_eq_some_iff.mp H
              obtain ⟨t625, A890, H⟩ := H
              replace H : (if t625 = 1 then (w14_DagLast.l0 k3 t579 y582 (wrap64 (x5_1 + 1)) l0_0 a0_1 a0_2 a0_3 a0_4 a0_5 a0_6 l0_7) else (some false)) = some r := H
              have A89 := As_.mk A890
              clear A890
              by_cases c90 : t625 = 1
              ·rw [if_pos c90] at H
               have c90b0 : (t625 == 1) = true := beq_iff_eq.mpr c90
               have c90b1 : (t625 != 1) = false := bne_eq_false_iff_eq.mpr c90
               clear c90
               have H' := As_.mk H
               clear H
               obtain ⟨Ao91, co91, eo91⟩ := Kd.R_slice HO_4.out
               subst eo91
               obtain ⟨Ao92, co92, eo92⟩ := Kd.R_slice HO_6.out
               subst eo92
               try go_wp2
               have n0_ := As_.mk (Kd.N_drew HO_3.out)
               have n1_ := As_.mk (Kd.R_drew HO_4.out)
               have n2_ := As_.mk (Kd.R_drew HO_6.out)
               have n3_ := As_.mk (kD_ BK577.out)
               have n4_ := As_.mk (b1_ HB.out)
               clear HO_3
               clear HO_4
               clear HO_6
               clear BK577
               clear HB
               have HO_3 := n0_
               have HO_4 := n1_
               have HO_6 := n2_
               have BK577 := n3_
               have HB := n4_
               clear n0_ n1_ n2_ n3_ n4_
               have p613 : 0 ≤ (x5_1 : Int) := of_decide_eq_true (by assumption)
               have q613 : x5_1 < (t579.length : Int) := of_decide_eq_true (by assumption)
               obtain ⟨ad613, A613_0, c613_0, e613, hx613_0, hl613_0, hi613_0⟩ := at_L5 (Kd.N_reads' HO_3.out).2.2 x5_1 p613 q613
               obtain rfl : ad586 = ad613 := (by injection e613)
               obtain ⟨ce613, hce613, hMe613, hcc613⟩ := Kd.N_get HO_3.out [] x5_1 p613 (by first | exact q613 | exact of_decide_eq_true (by assumption) | (have e_ := (Kd.N_reads' HO_3.out).1; omega))
               obtain ⟨ua613_0, uc613_0, rfl, ul613_0, ge613_0⟩ := Kd.FK_slice_open hMe613
               have hv613_0 := hcc613 0 _ rfl
               rw [Nat.add_zero, show ((Kd.slice 24 k24)).sz = 1 from rfl, Nat.mul_one] at hv613_0
               replace hv613_0 := Option.some.inj (hv613_0.symm.trans hx613_0)
               injection hv613_0 with hva_ hvn_ hvc_
               rw [hva_] at ge613_0
               rw [hvc_] at ul613_0
               have HL613_0 := As_.mk (show Kd.V k24 24 _ w.heap.size _ _ (rd_L5 t579 x5_1) from Kd.V_mk ul613_0 ge613_0)
               clear hva_ hvn_ hvc_ ge613_0 ul613_0
               clear hcc613 hce613
               have HR613_0 := As_.mk hi613_0
               have HC613_0 := As_.mk hl613_0
               clear hi613_0 hl613_0
               replace p613 := eq_true p613
               replace q613 := eq_true q613
               refine start_ (n := 15) (S := fun w' => w'.cell? (ad586.add (x5_1).toNat) = some (.slice A613_0 (rd_L5 t579 x5_1).length c613_0)) (ds := []) #[false, false, false, false, false, false, false, false, false, false, false, false, false, false, false] (by kernel_rfl) rfl (by kernel_rfl) (hx613_0) (fun hHeld => ?_); refine with_tabW w14_DagLast.tab28 w14_DagLast.bits28 (fun HT_ HW_ => ?_)
               generalize wr.drew = w93 at HO_3 HO_4 HO_6 BK577 HB HL613_0 HR613_0 hx613_0 hHeld ⊢
               refine pure_ (i := 0) (N := some 157) (v := ?_) (a' := ?_) #[true, false, false, false, false, false, false, false, false, false, false, false, false, false, false] rfl rfl (any_of HT_.out (by kernel_rfl)) (fun _ _ _ h => h) (Or.inl ⟨by rfl, ?_⟩) ?_ ?_
               rotate_left
               ·intro w'
                go_simp
                with_reducible rfl
               rotate_left
               ·simp only [Act.put, List.setIfInBounds_toArray, List.set_cons_zero, List.set_cons_succ, i64_w, i32_w]
                rfl
               refine pure_ (i := 1) (N := some 158) (v := ?_) (a' := ?_) #[true, true, false, false, false, false, false, false, false, false, false, false, false, false, false] rfl rfl (any_of HT_.out (by kernel_rfl)) (fun _ _ _ h => h) (Or.inl ⟨by rfl, ?_⟩) ?_ ?_
               rotate_left
               ·intro w'
                go_simp
                with_reducible rfl
               rotate_left
               ·simp only [Act.put, List.setIfInBounds_toArray, List.set_cons_zero, List.set_cons_succ, i64_w, i32_w]
                rfl
               refine pure_ (i := 2) (N := some 159) (v := ?_) (a' := ?_) #[true, true, true, false, false, false, false, false, false, false, false, false, false, false, false] rfl rfl (any_of HT_.out (by kernel_rfl)) (fun _ _ _ h => h) (Or.inl ⟨by rfl, ?_⟩) ?_ ?_
               rotate_left
               ·intro w'
                go_simp
                with_reducible rfl
               rotate_left
               ·simp only [Act.put, List.setIfInBounds_toArray, List.set_cons_zero, List.set_cons_succ, i64_w, i32_w]
                rfl
               refine pure_ (i := 4) (N := some 161) (v := ?_) (a' := ?_) #[true, true, true, false, true, false, false, false, false, false, false, false, false, false, false] rfl rfl (any_of HT_.out (by kernel_rfl)) (fun _ _ _ h => h) (Or.inl ⟨by rfl, ?_⟩) ?_ ?_
               rotate_left
               ·intro w'
                go_simp
                with_reducible rfl
               rotate_left
               ·simp only [Act.put, List.setIfInBounds_toArray, List.set_cons_zero, List.set_cons_succ, i64_w, i32_w]
                rfl
               refine pure_ (i := 5) (N := some 162) (v := ?_) (a' := ?_) #[true, true, true, false, true, true, false, false, false, false, false, false, false, false, false] rfl rfl (any_of HT_.out (by kernel_rfl)) (fun _ _ _ h => h) (Or.inl ⟨by rfl, ?_⟩) ?_ ?_
               rotate_left
               ·intro w'
                go_simp
                with_reducible rfl
               rotate_left
               ·simp only [Act.put, List.setIfInBounds_toArray, List.set_cons_zero, List.set_cons_succ, i64_w, i32_w]
                rfl
               refine take_ (i := 3) (N := some 160) (v := ?_) (a' := ?_) #[true, true, true, true, true, true, false, false, false, false, false, false, false, false, false] rfl rfl (take_ofW HT_.out HW_.out (by kernel_rfl)) (fun _ _ _ h => h) (Or.inl ⟨by rfl, ?_⟩) hHeld ?_ ?_
               rotate_left
               ·intro w' s0
                go_simp
                with_reducible rfl
               rotate_left
               ·simp only [Act.put, List.setIfInBounds_toArray, List.set_cons_zero, List.set_cons_succ, i64_w, i32_w]
                rfl
               refine join_ (σ := Value × Value) 7 #[true, true, true, true, true, true, true, true, false, false, false, false, false, false, false] (fun s_ => [(163, s_.1), (164, s_.2)]) (fun s_ w' => (w'.cell? (ad586.add (x5_1).toNat) = some (.slice A613_0 (rd_L5 t579 x5_1).length c613_0)) ∧ (Kd.V k24 24 w' w.heap.size (fun k_ => some k_ ≠ (s_.1 : Value).ownBlock ∧ some k_ ≠ (s_.2 : Value).ownBlock ∧ some k_ ≠ (.slice (some ad586) t579.length co21 : Value).ownBlock ∧ some k_ ≠ (.slice Ao91 y582.length co91 : Value).ownBlock ∧ some k_ ≠ (.slice Ao92 x6_19.length co92 : Value).ownBlock ∧ k_ ≠ gb577) (.slice A613_0 (rd_L5 t579 x5_1).length c613_0) (rd_L5 t579 x5_1)) ∧ (Kd.R (Kd.int .i64) 3 w' w.heap.size (fun k_ => some k_ ≠ (s_.2 : Value).ownBlock ∧ some k_ ≠ (.slice Ao92 x6_19.length co92 : Value).ownBlock) s_.1 t614) ∧ (Kd.R (Kd.int .i64) 3 w' w.heap.size (fun k_ => some k_ ≠ (s_.1 : Value).ownBlock ∧ some k_ ≠ (.slice Ao92 x6_19.length co92 : Value).ownBlock) s_.2 y617) ∧ (Kd.N (Kd.slice 24 k24) 22 w' w.heap.size (fun k_ => some k_ ≠ (s_.1 : Value).ownBlock ∧ some k_ ≠ (s_.2 : Value).ownBlock ∧ some k_ ≠ (.slice Ao91 y582.length co91 : Value).ownBlock ∧ some k_ ≠ (.slice Ao92 x6_19.length co92 : Value).ownBlock ∧ k_ ≠ gb577) (.slice (some ad586) t579.length co21) t579) ∧ (Kd.R k24 24 w' w.heap.size (fun _ => True) (.slice Ao91 y582.length co91) y582) ∧ (Kd.R (Kd.int .i64) 3 w' w.heap.size (fun k_ => some k_ ≠ (s_.1 : Value).ownBlock ∧ some k_ ≠ (s_.2 : Value).ownBlock) (.slice Ao92 x6_19.length co92) x6_19) ∧ (w'.heap[gb577]? = some (.cells #[.slice A0_0 l0_0.length c0_0, .int .i64 a0_1, .int .i64 a0_2, .int .i64 a0_3, .int .i64 a0_4, .int .i64 a0_5, .string a0_6, .slice A0_7 l0_7.length c0_7] 27 (0, 0))) ∧ (Below w.heap.size w w')) ?_ ?_
               rotate_left
               ·intro hCont
                refine two_ (i := 6) (j := 7) (Ni := some 163) (Nj := some 164) #[true, true, true, true, true, true, true, false, false, false, false, false, false, false, false] #[true, true, true, true, true, true, false, true, false, false, false, false, false, false, false] rfl rfl rfl rfl (two_of HT_.out (by kernel_rfl)) (by decide) (by decide) (fun K hK => ?_) (fun K hK => ?_)
                ·skip
                 refine goes_ Try.func37 (by kernel_rfl) rfl #[.slice Ao92 x6_19.length co92] (by rfl) rfl rfl (by (try simp only [List.map_toArray, List.map_cons, List.map_nil]); first | done | rfl) ?_
                 with_reducible refine (r0_CopyNumbers.calls k3 _ _ x6_19 t614 _ ?side1 ?side2 A86.out).mono ?_
                 (case side1 => repeat (first | exact (Kd.R_reads' HO_6.out).2.2 | (with_reducible refine Kd.C_alloc ?_ _) | (with_reducible refine Kd.C_drewN ?_ _) | (with_reducible refine Kd.C_drew ?_)))
                 (case side2 => exact (Kd.R_reads' HO_6.out).2.1)
                 rintro e w94 ⟨v615, rfl, ho0, hb⟩
                 have HS0_ := (hb.cell (World.block_lt_of_cell? _ _ (hHeld))).trans (hHeld)
                 refine ⟨_, rfl, ?_⟩
                 have n0_ := As_.mk (Kd.N_elder' (by (with_reducible repeat (first | apply Kd.N_alloc | apply Kd.N_drewN | apply Kd.N_drew)); exact HO_3.out) (Kd.R_base ho0) hb)
                 have n1_ := As_.mk (Kd.R_below (by (with_reducible repeat (first | apply Kd.R_alloc | apply Kd.R_drewN | apply Kd.R_drew)); exact HO_4.out) hb)
                 have n2_ := As_.mk (Kd.R_elder' (by (with_reducible repeat (first | apply Kd.R_alloc | apply Kd.R_drewN | apply Kd.R_drew)); exact HO_6.out) (Kd.R_base ho0) hb)
                 have n3_ := As_.mk (Kd.V_elder' (by (with_reducible repeat (first | apply Kd.V_alloc | apply Kd.V_drewN | apply Kd.V_drew)); exact HL613_0.out) (Kd.R_base ho0) hb)
                 have n4_ := As_.mk (Kd.R_lower (Kd.R_new' ho0 (Kd.R_lt (by (with_reducible repeat (first | apply Kd.R_alloc | apply Kd.R_drewN | apply Kd.R_drew)); exact HO_6.out))) (bY_ (by repeat (first | (with_reducible first | exact HB.out | apply bA_ | apply bN_ | apply b1_ | refine bS_ ?_ GE577.out) | exact HB.out))))
                 have n5_ := As_.mk (kB_ (g := gb577) (o := .cells #[.slice A0_0 l0_0.length c0_0, .int .i64 a0_1, .int .i64 a0_2, .int .i64 a0_3, .int .i64 a0_4, .int .i64 a0_5, .string a0_6, .slice A0_7 l0_7.length c0_7] 27 (0, 0)) (by (with_reducible repeat (first | refine kN_ ?_ _ | refine kD_ ?_ | refine kA_ ?_ _)); exact BK577.out) hb)
                 have n6_ := As_.mk (Kd.C_below (by repeat (first | (with_reducible exact HR613_0.out) | (with_reducible refine Kd.C_alloc ?_ _) | (with_reducible refine Kd.C_drewN ?_ _) | (with_reducible refine Kd.C_drew ?_) | exact HR613_0.out)) hb)
                 have n7_ := As_.mk (bT_ (by repeat (first | (with_reducible first | exact HB.out | apply bA_ | apply bN_ | apply b1_ | refine bS_ ?_ GE577.out) | exact HB.out)) hb)
                 clear HO_3
                 clear HO_4
                 clear HO_6
                 clear HL613_0
                 clear BK577
                 clear HR613_0
                 clear HB
                 have HO_3 := n0_
                 have HO_4 := n1_
                 have HO_6 := n2_
                 have HL613_0 := n3_
                 have HO616 := n4_
                 have BK577 := n5_
                 have HR613_0 := n6_
                 have HB := n7_
                 clear n0_ n1_ n2_ n3_ n4_ n5_ n6_ n7_
                 refine hK.out _ _ (HS0_) (fun hHeld => ?_)
                 clear hK K
                 refine norm_ (a' := ?_) ?_ ?_
                 rotate_left
                 ·show Act.put _ (some 163) _ = _
                  simp only [Act.put, List.setIfInBounds_toArray, List.set_cons_zero, List.set_cons_succ, i64_w, i32_w]
                  rfl
                 refine one_ (i := 7) (N := some 164) #[true, true, true, true, true, true, true, true, false, false, false, false, false, false, false] rfl rfl (one_of HT_.out (by kernel_rfl)) (by decide) (fun K hK => ?_)
                 refine Kd.R_lit_step (Kd.int .i64) _ 3 ?hg (N := 164) ?hd (xs := ([0] : List Int)) (inner := [.int .i64 0]) (ok := fun _ => True) (okp := fun _ => True) ?hr ?hp (fun _ hk => hk) trivial (Below.refl _ _) (Nat.le_refl _) (by simp) ?_; (case hd => rfl); (case hg => rfl); (case hr => first | (go_simp; done) | (go_simp; rfl)); (case hp => exact (Reps.one (show Kd.M (Kd.int .i64) _ _ _ 0 [.int .i64 0] from rfl) (Reps.none _ _)))
                 intro v618 w95 ho96 hb hg_ hnew_
                 have HS0_ := (hb.cell (World.block_lt_of_cell? _ _ (hHeld))).trans (hHeld)
                 clear hg_ hnew_
                 (first | rw [← Ny617.out] at ho96 | (simp only [Int.reduceToNat] at ho96; rw [← Ny617.out] at ho96))
                 have n0_ := As_.mk (Kd.N_elder' (by (with_reducible repeat (first | apply Kd.N_alloc | apply Kd.N_drewN | apply Kd.N_drew)); exact HO_3.out) (Kd.R_base ho96) hb)
                 have n1_ := As_.mk (Kd.R_below (by (with_reducible repeat (first | apply Kd.R_alloc | apply Kd.R_drewN | apply Kd.R_drew)); exact HO_4.out) hb)
                 have n2_ := As_.mk (Kd.R_elder' (by (with_reducible repeat (first | apply Kd.R_alloc | apply Kd.R_drewN | apply Kd.R_drew)); exact HO_6.out) (Kd.R_base ho96) hb)
                 have n3_ := As_.mk (Kd.V_elder' (by (with_reducible repeat (first | apply Kd.V_alloc | apply Kd.V_drewN | apply Kd.V_drew)); exact HL613_0.out) (Kd.R_base ho96) hb)
                 have n4_ := As_.mk (Kd.R_elder' (by (with_reducible repeat (first | apply Kd.R_alloc | apply Kd.R_drewN | apply Kd.R_drew)); exact HO616.out) (Kd.R_base ho96) hb)
                 have n5_ := As_.mk (Kd.R_lower (Kd.R_new' (Kd.R_new' ho96 (Kd.R_lt (by (with_reducible repeat (first | apply Kd.R_alloc | apply Kd.R_drewN | apply Kd.R_drew)); exact HO_6.out))) (Kd.R_lt (by (with_reducible repeat (first | apply Kd.R_alloc | apply Kd.R_drewN | apply Kd.R_drew)); exact HO616.out))) (bY_ (by repeat (first | (with_reducible first | exact HB.out | apply bA_ | apply bN_ | apply b1_ | refine bS_ ?_ GE577.out) | exact HB.out))))
                 have n6_ := As_.mk (kB_ (g := gb577) (o := .cells #[.slice A0_0 l0_0.length c0_0, .int .i64 a0_1, .int .i64 a0_2, .int .i64 a0_3, .int .i64 a0_4, .int .i64 a0_5, .string a0_6, .slice A0_7 l0_7.length c0_7] 27 (0, 0)) (by (with_reducible repeat (first | refine kN_ ?_ _ | refine kD_ ?_ | refine kA_ ?_ _)); exact BK577.out) hb)
                 have n7_ := As_.mk (Kd.C_below (by repeat (first | (with_reducible exact HR613_0.out) | (with_reducible refine Kd.C_alloc ?_ _) | (with_reducible refine Kd.C_drewN ?_ _) | (with_reducible refine Kd.C_drew ?_) | exact HR613_0.out)) hb)
                 have n8_ := As_.mk (bT_ (by repeat (first | (with_reducible first | exact HB.out | apply bA_ | apply bN_ | apply b1_ | refine bS_ ?_ GE577.out) | exact HB.out)) hb)
                 clear HO_3
                 clear HO_4
                 clear HO_6
                 clear HL613_0
                 clear HO616
                 clear BK577
                 clear HR613_0
                 clear HB
                 have HO_3 := n0_
                 have HO_4 := n1_
                 have HO_6 := n2_
                 have HL613_0 := n3_
                 have HO616 := n4_
                 have HO619 := n5_
                 have BK577 := n6_
                 have HR613_0 := n7_
                 have HB := n8_
                 clear n0_ n1_ n2_ n3_ n4_ n5_ n6_ n7_ n8_
                 clear hb ho96
                 refine hK.out _ _ (HS0_) (fun hHeld => ?_)
                 clear hK K
                 refine norm_ (a' := ?_) ?_ ?_
                 rotate_left
                 ·show Act.put _ (some 164) _ = _
                  simp only [Act.put, List.setIfInBounds_toArray, List.set_cons_zero, List.set_cons_succ, i64_w, i32_w]
                  rfl
                 exact norm_ (by simp only [putAll, Act.put, List.setIfInBounds_toArray, List.set_cons_zero, List.set_cons_succ]) (hCont (v615, v618) _ ⟨hHeld, (by (with_reducible repeat (first | apply Kd.V_alloc | apply Kd.V_drewN | apply Kd.V_drew)); exact Kd.V_mono HL613_0.out (fun _ hk => ⟨hk.1.2, ⟨hk.2, ⟨hk.1.1.2, ⟨hk.1.1.1.1, ⟨hk.1.1.1.2.1, hk.1.1.1.2.2⟩⟩⟩⟩⟩)), (by (with_reducible repeat (first | apply Kd.R_alloc | apply Kd.R_drewN | apply Kd.R_drew)); exact Kd.R_mono HO616.out (fun _ hk => ⟨hk.2, hk.1.2⟩)), (by (with_reducible repeat (first | apply Kd.R_alloc | apply Kd.R_drewN | apply Kd.R_drew)); exact Kd.R_mono HO619.out (fun _ hk => ⟨hk.2, hk.1.2⟩)), (by (with_reducible repeat (first | apply Kd.N_alloc | apply Kd.N_drewN | apply Kd.N_drew)); exact Kd.N_mono HO_3.out (fun _ hk => ⟨hk.1.2, ⟨hk.2, ⟨hk.1.1.1, ⟨hk.1.1.2.1, hk.1.1.2.2⟩⟩⟩⟩)), (by (with_reducible repeat (first | apply Kd.R_alloc | apply Kd.R_drewN | apply Kd.R_drew)); exact HO_4.out), (by (with_reducible repeat (first | apply Kd.R_alloc | apply Kd.R_drewN | apply Kd.R_drew)); exact Kd.R_mono HO_6.out (fun _ hk => ⟨hk.1.2, hk.2⟩)), (by (with_reducible repeat (first | refine kN_ ?_ _ | refine kD_ ?_ | refine kA_ ?_ _)); exact BK577.out), (by repeat (first | (with_reducible first | exact HB.out | apply bA_ | apply bN_ | apply b1_ | refine bS_ ?_ GE577.out) | exact HB.out))⟩)
                skip
                refine Kd.R_lit_step (Kd.int .i64) _ 3 ?hg (N := 164) ?hd (xs := ([0] : List Int)) (inner := [.int .i64 0]) (ok := fun _ => True) (okp := fun _ => True) ?hr ?hp (fun _ hk => hk) trivial (Below.refl _ _) (Nat.le_refl _) (by simp) ?_; (case hd => rfl); (case hg => rfl); (case hr => first | (go_simp; done) | (go_simp; rfl)); (case hp => exact (Reps.one (show Kd.M (Kd.int .i64) _ _ _ 0 [.int .i64 0] from rfl) (Reps.none _ _)))
                intro v618 w94 ho95 hb hg_ hnew_
                have HS0_ := (hb.cell (World.block_lt_of_cell? _ _ (hHeld))).trans (hHeld)
                clear hg_ hnew_
                (first | rw [← Ny617.out] at ho95 | (simp only [Int.reduceToNat] at ho95; rw [← Ny617.out] at ho95))
                have n0_ := As_.mk (Kd.N_elder' (by (with_reducible repeat (first | apply Kd.N_alloc | apply Kd.N_drewN | apply Kd.N_drew)); exact HO_3.out) (Kd.R_base ho95) hb)
                have n1_ := As_.mk (Kd.R_below (by (with_reducible repeat (first | apply Kd.R_alloc | apply Kd.R_drewN | apply Kd.R_drew)); exact HO_4.out) hb)
                have n2_ := As_.mk (Kd.R_elder' (by (with_reducible repeat (first | apply Kd.R_alloc | apply Kd.R_drewN | apply Kd.R_drew)); exact HO_6.out) (Kd.R_base ho95) hb)
                have n3_ := As_.mk (Kd.V_elder' (by (with_reducible repeat (first | apply Kd.V_alloc | apply Kd.V_drewN | apply Kd.V_drew)); exact HL613_0.out) (Kd.R_base ho95) hb)
                have n4_ := As_.mk (Kd.R_lower (Kd.R_new' ho95 (Kd.R_lt (by (with_reducible repeat (first | apply Kd.R_alloc | apply Kd.R_drewN | apply Kd.R_drew)); exact HO_6.out))) (bY_ (by repeat (first | (with_reducible first | exact HB.out | apply bA_ | apply bN_ | apply b1_ | refine bS_ ?_ GE577.out) | exact HB.out))))
                have n5_ := As_.mk (kB_ (g := gb577) (o := .cells #[.slice A0_0 l0_0.length c0_0, .int .i64 a0_1, .int .i64 a0_2, .int .i64 a0_3, .int .i64 a0_4, .int .i64 a0_5, .string a0_6, .slice A0_7 l0_7.length c0_7] 27 (0, 0)) (by (with_reducible repeat (first | refine kN_ ?_ _ | refine kD_ ?_ | refine kA_ ?_ _)); exact BK577.out) hb)
                have n6_ := As_.mk (Kd.C_below (by repeat (first | (with_reducible exact HR613_0.out) | (with_reducible refine Kd.C_alloc ?_ _) | (with_reducible refine Kd.C_drewN ?_ _) | (with_reducible refine Kd.C_drew ?_) | exact HR613_0.out)) hb)
                have n7_ := As_.mk (bT_ (by repeat (first | (with_reducible first | exact HB.out | apply bA_ | apply bN_ | apply b1_ | refine bS_ ?_ GE577.out) | exact HB.out)) hb)
                clear HO_3
                clear HO_4
                clear HO_6
                clear HL613_0
                clear BK577
                clear HR613_0
                clear HB
                have HO_3 := n0_
                have HO_4 := n1_
                have HO_6 := n2_
                have HL613_0 := n3_
                have HO619 := n4_
                have BK577 := n5_
                have HR613_0 := n6_
                have HB := n7_
                clear n0_ n1_ n2_ n3_ n4_ n5_ n6_ n7_
                clear hb ho95
                refine hK.out _ _ (HS0_) (fun hHeld => ?_)
                clear hK K
                refine norm_ (a' := ?_) ?_ ?_
                rotate_left
                ·show Act.put _ (some 164) _ = _
                 simp only [Act.put, List.setIfInBounds_toArray, List.set_cons_zero, List.set_cons_succ, i64_w, i32_w]
                 rfl
                refine one_ (i := 6) (N := some 163) #[true, true, true, true, true, true, true, true, false, false, false, false, false, false, false] rfl rfl (one_of HT_.out (by kernel_rfl)) (by decide) (fun K hK => ?_)
                refine goes_ Try.func37 (by kernel_rfl) rfl #[.slice Ao92 x6_19.length co92] (by rfl) rfl rfl (by (try simp only [List.map_toArray, List.map_cons, List.map_nil]); first | done | rfl) ?_
                with_reducible refine (r0_CopyNumbers.calls k3 _ _ x6_19 t614 _ ?side1 ?side2 A86.out).mono ?_
                (case side1 => repeat (first | exact (Kd.R_reads' HO_6.out).2.2 | (with_reducible refine Kd.C_alloc ?_ _) | (with_reducible refine Kd.C_drewN ?_ _) | (with_reducible refine Kd.C_drew ?_)))
                (case side2 => exact (Kd.R_reads' HO_6.out).2.1)
                rintro e w96 ⟨v615, rfl, ho0, hb⟩
                have HS0_ := (hb.cell (World.block_lt_of_cell? _ _ (hHeld))).trans (hHeld)
                refine ⟨_, rfl, ?_⟩
                have n0_ := As_.mk (Kd.N_elder' (by (with_reducible repeat (first | apply Kd.N_alloc | apply Kd.N_drewN | apply Kd.N_drew)); exact HO_3.out) (Kd.R_base ho0) hb)
                have n1_ := As_.mk (Kd.R_below (by (with_reducible repeat (first | apply Kd.R_alloc | apply Kd.R_drewN | apply Kd.R_drew)); exact HO_4.out) hb)
                have n2_ := As_.mk (Kd.R_elder' (by (with_reducible repeat (first | apply Kd.R_alloc | apply Kd.R_drewN | apply Kd.R_drew)); exact HO_6.out) (Kd.R_base ho0) hb)
                have n3_ := As_.mk (Kd.V_elder' (by (with_reducible repeat (first | apply Kd.V_alloc | apply Kd.V_drewN | apply Kd.V_drew)); exact HL613_0.out) (Kd.R_base ho0) hb)
                have n4_ := As_.mk (Kd.R_elder' (by (with_reducible repeat (first | apply Kd.R_alloc | apply Kd.R_drewN | apply Kd.R_drew)); exact HO619.out) (Kd.R_base ho0) hb)
                have n5_ := As_.mk (Kd.R_lower (Kd.R_new' (Kd.R_new' ho0 (Kd.R_lt (by (with_reducible repeat (first | apply Kd.R_alloc | apply Kd.R_drewN | apply Kd.R_drew)); exact HO_6.out))) (Kd.R_lt (by (with_reducible repeat (first | apply Kd.R_alloc | apply Kd.R_drewN | apply Kd.R_drew)); exact HO619.out))) (bY_ (by repeat (first | (with_reducible first | exact HB.out | apply bA_ | apply bN_ | apply b1_ | refine bS_ ?_ GE577.out) | exact HB.out))))
                have n6_ := As_.mk (kB_ (g := gb577) (o := .cells #[.slice A0_0 l0_0.length c0_0, .int .i64 a0_1, .int .i64 a0_2, .int .i64 a0_3, .int .i64 a0_4, .int .i64 a0_5, .string a0_6, .slice A0_7 l0_7.length c0_7] 27 (0, 0)) (by (with_reducible repeat (first | refine kN_ ?_ _ | refine kD_ ?_ | refine kA_ ?_ _)); exact BK577.out) hb)
                have n7_ := As_.mk (Kd.C_below (by repeat (first | (with_reducible exact HR613_0.out) | (with_reducible refine Kd.C_alloc ?_ _) | (with_reducible refine Kd.C_drewN ?_ _) | (with_reducible refine Kd.C_drew ?_) | exact HR613_0.out)) hb)
                have n8_ := As_.mk (bT_ (by repeat (first | (with_reducible first | exact HB.out | apply bA_ | apply bN_ | apply b1_ | refine bS_ ?_ GE577.out) | exact HB.out)) hb)
                clear HO_3
                clear HO_4
                clear HO_6
                clear HL613_0
                clear HO619
                clear BK577
                clear HR613_0
                clear HB
                have HO_3 := n0_
                have HO_4 := n1_
                have HO_6 := n2_
                have HL613_0 := n3_
                have HO619 := n4_
                have HO616 := n5_
                have BK577 := n6_
                have HR613_0 := n7_
                have HB := n8_
                clear n0_ n1_ n2_ n3_ n4_ n5_ n6_ n7_ n8_
                refine hK.out _ _ (HS0_) (fun hHeld => ?_)
                clear hK K
                refine norm_ (a' := ?_) ?_ ?_
                rotate_left
                ·show Act.put _ (some 163) _ = _
                 simp only [Act.put, List.setIfInBounds_toArray, List.set_cons_zero, List.set_cons_succ, i64_w, i32_w]
                 rfl
                exact norm_ (by simp only [putAll, Act.put, List.setIfInBounds_toArray, List.set_cons_zero, List.set_cons_succ]) (hCont (v615, v618) _ ⟨hHeld, (by (with_reducible repeat (first | apply Kd.V_alloc | apply Kd.V_drewN | apply Kd.V_drew)); exact Kd.V_mono HL613_0.out (fun _ hk => ⟨hk.2, ⟨hk.1.2, ⟨hk.1.1.2, ⟨hk.1.1.1.1, ⟨hk.1.1.1.2.1, hk.1.1.1.2.2⟩⟩⟩⟩⟩)), (by (with_reducible repeat (first | apply Kd.R_alloc | apply Kd.R_drewN | apply Kd.R_drew)); exact Kd.R_mono HO616.out (fun _ hk => ⟨hk.2, hk.1.2⟩)), (by (with_reducible repeat (first | apply Kd.R_alloc | apply Kd.R_drewN | apply Kd.R_drew)); exact Kd.R_mono HO619.out (fun _ hk => ⟨hk.2, hk.1.2⟩)), (by (with_reducible repeat (first | apply Kd.N_alloc | apply Kd.N_drewN | apply Kd.N_drew)); exact Kd.N_mono HO_3.out (fun _ hk => ⟨hk.2, ⟨hk.1.2, ⟨hk.1.1.1, ⟨hk.1.1.2.1, hk.1.1.2.2⟩⟩⟩⟩)), (by (with_reducible repeat (first | apply Kd.R_alloc | apply Kd.R_drewN | apply Kd.R_drew)); exact HO_4.out), (by (with_reducible repeat (first | apply Kd.R_alloc | apply Kd.R_drewN | apply Kd.R_drew)); exact Kd.R_mono HO_6.out (fun _ hk => ⟨hk.2, hk.1.2⟩)), (by (with_reducible repeat (first | refine kN_ ?_ _ | refine kD_ ?_ | refine kA_ ?_ _)); exact BK577.out), (by repeat (first | (with_reducible first | exact HB.out | apply bA_ | apply bN_ | apply b1_ | refine bS_ ?_ GE577.out) | exact HB.out))⟩)
               rintro ⟨v615, v618⟩ w97 ⟨hS_, h0_, h1_, h2_, h3_, h4_, h5_, h6_, h7_⟩
               have n0_ : As_ (Kd.V k24 24 w97 w.heap.size (fun k_ => some k_ ≠ (v615 : Value).ownBlock ∧ some k_ ≠ (v618 : Value).ownBlock ∧ some k_ ≠ (.slice (some ad586) t579.length co21 : Value).ownBlock ∧ some k_ ≠ (.slice Ao91 y582.length co91 : Value).ownBlock ∧ some k_ ≠ (.slice Ao92 x6_19.length co92 : Value).ownBlock ∧ k_ ≠ gb577) (.slice A613_0 (rd_L5 t579 x5_1).length c613_0) (rd_L5 t579 x5_1)) := ⟨h0_⟩
               have n1_ : As_ (Kd.R (Kd.int .i64) 3 w97 w.heap.size (fun k_ => some k_ ≠ (v618 : Value).ownBlock ∧ some k_ ≠ (.slice Ao92 x6_19.length co92 : Value).ownBlock) v615 t614) := ⟨h1_⟩
               have n2_ : As_ (Kd.R (Kd.int .i64) 3 w97 w.heap.size (fun k_ => some k_ ≠ (v615 : Value).ownBlock ∧ some k_ ≠ (.slice Ao92 x6_19.length co92 : Value).ownBlock) v618 y617) := ⟨h2_⟩
               have n3_ : As_ (Kd.N (Kd.slice 24 k24) 22 w97 w.heap.size (fun k_ => some k_ ≠ (v615 : Value).ownBlock ∧ some k_ ≠ (v618 : Value).ownBlock ∧ some k_ ≠ (.slice Ao91 y582.length co91 : Value).ownBlock ∧ some k_ ≠ (.slice Ao92 x6_19.length co92 : Value).ownBlock ∧ k_ ≠ gb577) (.slice (some ad586) t579.length co21) t579) := ⟨h3_⟩
               have n4_ : As_ (Kd.R k24 24 w97 w.heap.size (fun _ => True) (.slice Ao91 y582.length co91) y582) := ⟨h4_⟩
               have n5_ : As_ (Kd.R (Kd.int .i64) 3 w97 w.heap.size (fun k_ => some k_ ≠ (v615 : Value).ownBlock ∧ some k_ ≠ (v618 : Value).ownBlock) (.slice Ao92 x6_19.length co92) x6_19) := ⟨h5_⟩
               have n6_ : As_ (w97.heap[gb577]? = some (.cells #[.slice A0_0 l0_0.length c0_0, .int .i64 a0_1, .int .i64 a0_2, .int .i64 a0_3, .int .i64 a0_4, .int .i64 a0_5, .string a0_6, .slice A0_7 l0_7.length c0_7] 27 (0, 0))) := ⟨h6_⟩
               have n7_ : As_ (Below w.heap.size w w97) := ⟨h7_⟩
               clear HO_3
               clear HO_4
               clear HO_6
               clear BK577
               clear HB
               clear h0_ h1_ h2_ h3_ h4_ h5_ h6_ h7_
               have HL613_0 := n0_
               have HO616 := n1_
               have HO619 := n2_
               have HO_3 := n3_
               have HO_4 := n4_
               have HO_6 := n5_
               have BK577 := n6_
               have HB := n7_
               clear n0_ n1_ n2_ n3_ n4_ n5_ n6_ n7_
               have hHeld : w97.cell? (ad586.add (x5_1).toNat) = some (.slice A613_0 (rd_L5 t579 x5_1).length c613_0) := hS_
               obtain ⟨Ao99, co99, eo99⟩ := Kd.R_slice HO619.out
               (first | subst eo99 | (injection eo99 with f1_ f2_ f3_; have f4_ := f1_.symm; have f5_ := f3_.symm; clear f1_ f2_ f3_; subst f4_; subst f5_))
               refine norm_ (a' := ?_) ?_ ?_
               rotate_left
               ·simp only [putAll, Act.put, List.setIfInBounds_toArray, List.set_cons_zero, List.set_cons_succ]
                rfl
               refine one_ (i := 8) (N := some 165) #[true, true, true, true, true, true, true, true, true, false, false, false, false, false, false] rfl rfl (one_of HT_.out (by kernel_rfl)) (by decide) (fun K hK => ?_)
               refine Kd.R_append_rows_step (Kd.int .i64) (w0 := w) w.heap.size (by rfl) (.tmp 163) (.tmp 164) 25 3 (.int .i64 0) 8 rfl Try.underlying25 info3 rfl (by decide) (by omega) v615 t614 y617 _ _ _ (fun k_ => some k_ ≠ (.slice Ao92 x6_19.length co92 : Value).ownBlock ∧ some k_ ≠ (.slice Ao99 y617.length co99 : Value).ownBlock) (fun _ => False) rfl rfl ?aO ?aR (fun _ _ h => h) (fun _ h => h.elim) ?aF ?aB ?aS ?aL ?_
               (case aR => repeat (first | exact (Kd.R_reads' HO619.out).2.2 | (with_reducible refine Kd.C_alloc ?_ _) | (with_reducible refine Kd.C_drewN ?_ _) | (with_reducible refine Kd.C_drew ?_)))
               (case aB => exact (by repeat (first | (with_reducible first | exact HB.out | apply bA_ | apply bN_ | apply b1_ | refine bS_ ?_ GE577.out) | exact HB.out)))
               (case aF => exact (fun k_ hk => ⟨Kd.fresh' (Kd.R_lt (by (with_reducible repeat (first | apply Kd.R_alloc | apply Kd.R_drewN | apply Kd.R_drew)); exact HO_6.out)) k_ hk, Kd.fresh' (Kd.R_lt (by (with_reducible repeat (first | apply Kd.R_alloc | apply Kd.R_drewN | apply Kd.R_drew)); exact HO619.out)) k_ hk⟩))
               (case aO => exact (by (with_reducible repeat (first | apply Kd.R_alloc | apply Kd.R_drewN | apply Kd.R_drew)); exact Kd.R_mono HO616.out (fun _ hk => ⟨hk.2, hk.1⟩)))
               (case aS => exact (bY_ (by repeat (first | (with_reducible first | exact HB.out | apply bA_ | apply bN_ | apply b1_ | refine bS_ ?_ GE577.out) | exact HB.out))))
               (case aL => have := LMc87.out; omega)
               intro v621 w98 ho hb hg hat
               have HS0_ := cell_grown hg (hHeld) (by obtain ⟨c_, h_⟩ := Kd.N_typed HO_3.out _ rfl; first | (rw [add_block]; exact Kd.R_ne HO616.out h_ (by decide)) | exact Kd.R_ne HO616.out h_ (by decide))
               rw [← Ny620.out] at ho
               have n0_ := As_.mk (Kd.N_afterv (ok := (fun k_ => some k_ ≠ (.slice Ao91 y582.length co91 : Value).ownBlock ∧ some k_ ≠ (.slice Ao92 x6_19.length co92 : Value).ownBlock ∧ some k_ ≠ (.slice Ao99 y617.length co99 : Value).ownBlock ∧ k_ ≠ gb577)) (by (with_reducible repeat (first | apply Kd.N_alloc | apply Kd.N_drewN | apply Kd.N_drew)); exact Kd.N_mono HO_3.out (fun _ hk => ⟨⟨hk.2.2.1, ⟨hk.2.2.2.1, ⟨hk.2.1, hk.2.2.2.2⟩⟩⟩, hk.1⟩)) hg hat)
               have n1_ := As_.mk (Kd.R_over' (by (with_reducible repeat (first | apply Kd.R_alloc | apply Kd.R_drewN | apply Kd.R_drew)); exact HO_4.out) (Kd.R_typed (by (with_reducible repeat (first | apply Kd.R_alloc | apply Kd.R_drewN | apply Kd.R_drew)); exact HO616.out)) (by decide) hg)
               have n2_ := As_.mk (Kd.R_after (ok := (fun k_ => some k_ ≠ (.slice Ao99 y617.length co99 : Value).ownBlock)) (by (with_reducible repeat (first | apply Kd.R_alloc | apply Kd.R_drewN | apply Kd.R_drew)); exact Kd.R_mono HO_6.out (fun _ hk => ⟨hk.2, hk.1⟩)) hg hat)
               have n3_ := As_.mk (blk_grown (g := gb577) (o := .cells #[.slice A0_0 l0_0.length c0_0, .int .i64 a0_1, .int .i64 a0_2, .int .i64 a0_3, .int .i64 a0_4, .int .i64 a0_5, .string a0_6, .slice A0_7 l0_7.length c0_7] 27 (0, 0)) (by (with_reducible repeat (first | refine kN_ ?_ _ | refine kD_ ?_ | refine kA_ ?_ _)); exact BK577.out) hg (Kd.R_ne HO616.out BK577.out (by decide)))
               have n4_ := As_.mk (Kd.V_afterv (ok := (fun k_ => some k_ ≠ (.slice (some ad586) t579.length co21 : Value).ownBlock ∧ some k_ ≠ (.slice Ao91 y582.length co91 : Value).ownBlock ∧ some k_ ≠ (.slice Ao92 x6_19.length co92 : Value).ownBlock ∧ some k_ ≠ (.slice Ao99 y617.length co99 : Value).ownBlock ∧ k_ ≠ gb577)) (by (with_reducible repeat (first | apply Kd.V_alloc | apply Kd.V_drewN | apply Kd.V_drew)); exact Kd.V_mono HL613_0.out (fun _ hk => ⟨⟨hk.2.2.1, ⟨hk.2.2.2.1, ⟨hk.2.2.2.2.1, ⟨hk.2.1, hk.2.2.2.2.2⟩⟩⟩⟩, hk.1⟩)) hg hat)
               have n5_ := As_.mk (Kd.R_after (ok := (fun k_ => some k_ ≠ (.slice Ao92 x6_19.length co92 : Value).ownBlock)) (by (with_reducible repeat (first | apply Kd.R_alloc | apply Kd.R_drewN | apply Kd.R_drew)); exact Kd.R_mono HO619.out (fun _ hk => ⟨hk.2, hk.1⟩)) hg hat)
               have n6_ := As_.mk (hb)
               have n7_ := As_.mk (ho)
               clear HO_3
               clear HO_4
               clear HO_6
               clear BK577
               clear HL613_0
               clear HO619
               clear HB
               clear HO616
               have HO_3 := n0_
               have HO_4 := n1_
               have HO_6 := n2_
               have BK577 := n3_
               have HL613_0 := n4_
               have HO619 := n5_
               have HB := n6_
               have HO622 := n7_
               clear n0_ n1_ n2_ n3_ n4_ n5_ n6_ n7_
               clear ho hb hg hat
               obtain ⟨Ao100, co100, eo100⟩ := Kd.R_slice HO622.out
               (first | subst eo100 | (injection eo100 with f1_ f2_ f3_; have f4_ := f1_.symm; have f5_ := f3_.symm; clear f1_ f2_ f3_; subst f4_; subst f5_))
               refine hK.out _ _ (HS0_) (fun hHeld => ?_)
               clear hK K
               refine norm_ (a' := ?_) ?_ ?_
               rotate_left
               ·show Act.put _ (some 165) _ = _
                simp only [Act.put, List.setIfInBounds_toArray, List.set_cons_zero, List.set_cons_succ, i64_w, i32_w]
                rfl
               refine one_ (i := 9) (N := some 166) #[true, true, true, true, true, true, true, true, true, true, false, false, false, false, false] rfl rfl (one_of HT_.out (by kernel_rfl)) (by decide) (fun K hK => ?_)
               refine goes_ Try.func38 (by kernel_rfl) rfl #[.slice A613_0 (rd_L5 t579 x5_1).length c613_0, .agg #[.int .i64 0, .int .i64 0, .int .i64 0, .int .i64 0, .int .i64 0, .string (⟨#[]⟩ : ByteArray)], .slice Ao100 y620.length co100] (by rfl) rfl rfl (by (try simp only [List.map_toArray, List.map_cons, List.map_nil]); first | done | rfl) ?_
               with_reducible refine (dag_Last.calls k3 _ _ (rd_L5 t579 x5_1) 0 0 0 0 0 (⟨#[]⟩ : ByteArray) _ _ y620 t623 t624 _ ?side1 ?side2 ?side3 ?side4 A88.out).mono ?_
               (case side1 => repeat (first | exact ((Kd.V_reads' (e := 0) (base := 0) (by (with_reducible repeat (first | apply Kd.V_alloc | apply Kd.V_drewN | apply Kd.V_drew)); exact HL613_0.out)).2.2) | (with_reducible refine Kd.C_alloc ?_ _) | (with_reducible refine Kd.C_drewN ?_ _) | (with_reducible refine Kd.C_drew ?_)))
               (case side2 => exact HC613_0.out)
               (case side3 => repeat (first | exact (Kd.R_reads' HO622.out).2.2 | (with_reducible refine Kd.C_alloc ?_ _) | (with_reducible refine Kd.C_drewN ?_ _) | (with_reducible refine Kd.C_drew ?_)))
               (case side4 => exact (Kd.R_reads' HO622.out).2.1)
               rintro e w101 ⟨rfl, hb⟩
               have HS0_ := (hb.cell (World.block_lt_of_cell? _ _ (hHeld))).trans (hHeld)
               refine ⟨_, rfl, ?_⟩
               have n0_ := As_.mk (Kd.N_below (by (with_reducible repeat (first | apply Kd.N_alloc | apply Kd.N_drewN | apply Kd.N_drew)); exact HO_3.out) hb)
               have n1_ := As_.mk (Kd.R_below (by (with_reducible repeat (first | apply Kd.R_alloc | apply Kd.R_drewN | apply Kd.R_drew)); exact HO_4.out) hb)
               have n2_ := As_.mk (Kd.R_below (by (with_reducible repeat (first | apply Kd.R_alloc | apply Kd.R_drewN | apply Kd.R_drew)); exact HO_6.out) hb)
               have n3_ := As_.mk (Kd.V_below (by (with_reducible repeat (first | apply Kd.V_alloc | apply Kd.V_drewN | apply Kd.V_drew)); exact HL613_0.out) hb)
               have n4_ := As_.mk (Kd.R_below (by (with_reducible repeat (first | apply Kd.R_alloc | apply Kd.R_drewN | apply Kd.R_drew)); exact HO619.out) hb)
               have n5_ := As_.mk (Kd.R_below (by (with_reducible repeat (first | apply Kd.R_alloc | apply Kd.R_drewN | apply Kd.R_drew)); exact HO622.out) hb)
               have n6_ := As_.mk (kB_ (g := gb577) (o := .cells #[.slice A0_0 l0_0.length c0_0, .int .i64 a0_1, .int .i64 a0_2, .int .i64 a0_3, .int .i64 a0_4, .int .i64 a0_5, .string a0_6, .slice A0_7 l0_7.length c0_7] 27 (0, 0)) (by (with_reducible repeat (first | refine kN_ ?_ _ | refine kD_ ?_ | refine kA_ ?_ _)); exact BK577.out) hb)
               have n7_ := As_.mk (bT_ (by repeat (first | (with_reducible first | exact HB.out | apply bA_ | apply bN_ | apply b1_ | refine bS_ ?_ GE577.out) | exact HB.out)) hb)
               clear HO_3
               clear HO_4
               clear HO_6
               clear HL613_0
               clear HO619
               clear HO622
               clear BK577
               clear HB
               have HO_3 := n0_
               have HO_4 := n1_
               have HO_6 := n2_
               have HL613_0 := n3_
               have HO619 := n4_
               have HO622 := n5_
               have BK577 := n6_
               have HB := n7_
               clear n0_ n1_ n2_ n3_ n4_ n5_ n6_ n7_
               refine hK.out _ _ (HS0_) (fun hHeld => ?_)
               clear hK K
               refine norm_ (a' := ?_) ?_ ?_
               rotate_left
               ·show Act.put _ (some 166) _ = _
                simp only [Act.put, List.setIfInBounds_toArray, List.set_cons_zero, List.set_cons_succ, i64_w, i32_w]
                rfl
               refine pure_ (i := 10) (N := some 156) (v := ?_) (a' := ?_) #[true, true, true, true, true, true, true, true, true, true, true, false, false, false, false] rfl rfl (any_of HT_.out (by kernel_rfl)) (fun _ _ _ h => h) (Or.inl ⟨by rfl, ?_⟩) ?_ ?_
               rotate_left
               ·intro w'
                go_simp
                with_reducible rfl
               rotate_left
               ·simp only [Act.put, List.setIfInBounds_toArray, List.set_cons_zero, List.set_cons_succ, i64_w, i32_w]
                rfl
               refine pure_ (i := 11) (N := some 167) (v := ?_) (a' := ?_) #[true, true, true, true, true, true, true, true, true, true, true, true, false, false, false] rfl rfl (any_of HT_.out (by kernel_rfl)) (fun _ _ _ h => h) (Or.inl ⟨by rfl, ?_⟩) ?_ ?_
               rotate_left
               ·intro w'
                go_simp
                with_reducible rfl
               rotate_left
               ·simp only [Act.put, List.setIfInBounds_toArray, List.set_cons_zero, List.set_cons_succ, i64_w, i32_w]
                rfl
               refine pure_ (i := 12) (N := some 168) (v := ?_) (a' := ?_) #[true, true, true, true, true, true, true, true, true, true, true, true, true, false, false] rfl rfl (any_of HT_.out (by kernel_rfl)) (fun _ _ _ h => h) (Or.inl ⟨by rfl, ?_⟩) ?_ ?_
               rotate_left
               ·intro w'
                go_simp
                with_reducible rfl
               rotate_left
               ·simp only [Act.put, List.setIfInBounds_toArray, List.set_cons_zero, List.set_cons_succ, i64_w, i32_w]
                rfl
               refine pure_ (i := 13) (N := some 16) (v := ?_) (a' := ?_) #[true, true, true, true, true, true, true, true, true, true, true, true, true, true, false] rfl rfl (any_of HT_.out (by kernel_rfl)) (fun _ _ _ h => h) (Or.inl ⟨by rfl, ?_⟩) ?_ ?_
               rotate_left
               ·intro w'
                go_simp
                with_reducible rfl
               rotate_left
               ·simp only [Act.put, List.setIfInBounds_toArray, List.set_cons_zero, List.set_cons_succ, i64_w, i32_w]
                rfl
               refine pure_ (i := 14) (N := some 17) (v := ?_) (a' := ?_) #[true, true, true, true, true, true, true, true, true, true, true, true, true, true, true] rfl rfl (any_of HT_.out (by kernel_rfl)) (fun _ _ _ h => h) (Or.inl ⟨by rfl, ?_⟩) ?_ ?_
               rotate_left
               ·intro w'
                go_simp
                with_reducible rfl
               rotate_left
               ·simp only [Act.put, List.setIfInBounds_toArray, List.set_cons_zero, List.set_cons_succ, i64_w, i32_w]
                rfl
               refine done_ (done_of HT_.out (by kernel_rfl)) ?_
               try go_wp2_with (first | ((with_reducible refine gC_ (f := 21) rfl ?_); refine goesL_ (some 170) rfl rfl Try.func21 (by kernel_rfl) rfl #[.int .i64 t624] rfl (by (try simp only [List.map_toArray, List.map_cons, List.map_nil]); first | done | rfl) ?_; (with_reducible refine (w14_num.calls t624 t625 _ A89.out).mono ?_); rintro e w' ⟨rfl, ⟨nd, rfl⟩⟩; refine ⟨_, rfl, ?_⟩))
               go_roundg k3
               case measure => have := HK1.out; have := HJ19.out; have := HK3.out; omega
               case rel => exact ⟨(wrap64 (x5_1 + 1)), (by first | rfl | (simp; done) | (simp [*]; done) | (simp [wrap64]; done) | (congr 1; rw [Bool.eq_iff_iff]; simp; done)), H', ⟨by have := HK1.out; have := HJ19.out; have := HK3.out; omega⟩, ⟨by (with_reducible repeat (first | apply Kd.N_alloc | apply Kd.N_drewN | apply Kd.N_drew)); exact Kd.N_mono HO_3.out (fun _ hk => ⟨hk.1.1, hk.1.2.2.2⟩)⟩, ⟨by (with_reducible repeat (first | apply Kd.R_alloc | apply Kd.R_drewN | apply Kd.R_drew)); exact HO_4.out⟩, ⟨by (with_reducible repeat (first | refine kN_ ?_ _ | refine kD_ ?_ | refine kA_ ?_ _)); exact BK577.out⟩, ⟨by repeat (first | (with_reducible first | exact HB.out | apply bA_ | apply bN_ | apply b1_ | refine bS_ ?_ GE577.out) | exact HB.out)⟩⟩
              rw [if_neg c90] at H
              have c90b0 : (t625 == 1) = false := beq_eq_false_iff_ne.mpr c90
              have c90b1 : (t625 != 1) = true := bne_iff_ne.mpr c90
              obtain rfl := Option.some.inj H
              obtain ⟨Ao102, co102, eo102⟩ := Kd.R_slice HO_4.out
              subst eo102
              obtain ⟨Ao103, co103, eo103⟩ := Kd.R_slice HO_6.out
              subst eo103
              try go_wp2
              have n0_ := As_.mk (Kd.N_drew HO_3.out)
              have n1_ := As_.mk (Kd.R_drew HO_4.out)
              have n2_ := As_.mk (Kd.R_drew HO_6.out)
              have n3_ := As_.mk (kD_ BK577.out)
              have n4_ := As_.mk (b1_ HB.out)
              clear HO_3
              clear HO_4
              clear HO_6
              clear BK577
              clear HB
              have HO_3 := n0_
              have HO_4 := n1_
              have HO_6 := n2_
              have BK577 := n3_
              have HB := n4_
              clear n0_ n1_ n2_ n3_ n4_
              have p613 : 0 ≤ (x5_1 : Int) := of_decide_eq_true (by assumption)
              have q613 : x5_1 < (t579.length : Int) := of_decide_eq_true (by assumption)
              obtain ⟨ad613, A613_0, c613_0, e613, hx613_0, hl613_0, hi613_0⟩ := at_L5 (Kd.N_reads' HO_3.out).2.2 x5_1 p613 q613
              obtain rfl : ad586 = ad613 := (by injection e613)
              obtain ⟨ce613, hce613, hMe613, hcc613⟩ := Kd.N_get HO_3.out [] x5_1 p613 (by first | exact q613 | exact of_decide_eq_true (by assumption) | (have e_ := (Kd.N_reads' HO_3.out).1; omega))
              obtain ⟨ua613_0, uc613_0, rfl, ul613_0, ge613_0⟩ := Kd.FK_slice_open hMe613
              have hv613_0 := hcc613 0 _ rfl
              rw [Nat.add_zero, show ((Kd.slice 24 k24)).sz = 1 from rfl, Nat.mul_one] at hv613_0
              replace hv613_0 := Option.some.inj (hv613_0.symm.trans hx613_0)
              injection hv613_0 with hva_ hvn_ hvc_
              rw [hva_] at ge613_0
              rw [hvc_] at ul613_0
              have HL613_0 := As_.mk (show Kd.V k24 24 _ w.heap.size _ _ (rd_L5 t579 x5_1) from Kd.V_mk ul613_0 ge613_0)
              clear hva_ hvn_ hvc_ ge613_0 ul613_0
              clear hcc613 hce613
              have HR613_0 := As_.mk hi613_0
              have HC613_0 := As_.mk hl613_0
              clear hi613_0 hl613_0
              replace p613 := eq_true p613
              replace q613 := eq_true q613
              refine start_ (n := 15) (S := fun w' => w'.cell? (ad586.add (x5_1).toNat) = some (.slice A613_0 (rd_L5 t579 x5_1).length c613_0)) (ds := []) #[false, false, false, false, false, false, false, false, false, false, false, false, false, false, false] (by kernel_rfl) rfl (by kernel_rfl) (hx613_0) (fun hHeld => ?_); refine with_tabW w14_DagLast.tab28 w14_DagLast.bits28 (fun HT_ HW_ => ?_)
              generalize wr.drew = w104 at HO_3 HO_4 HO_6 BK577 HB HL613_0 HR613_0 hx613_0 hHeld ⊢
              refine pure_ (i := 0) (N := some 157) (v := ?_) (a' := ?_) #[true, false, false, false, false, false, false, false, false, false, false, false, false, false, false] rfl rfl (any_of HT_.out (by kernel_rfl)) (fun _ _ _ h => h) (Or.inl ⟨by rfl, ?_⟩) ?_ ?_
              rotate_left
              ·intro w'
               go_simp
               with_reducible rfl
              rotate_left
              ·simp only [Act.put, List.setIfInBounds_toArray, List.set_cons_zero, List.set_cons_succ, i64_w, i32_w]
               rfl
              refine pure_ (i := 1) (N := some 158) (v := ?_) (a' := ?_) #[true, true, false, false, false, false, false, false, false, false, false, false, false, false, false] rfl rfl (any_of HT_.out (by kernel_rfl)) (fun _ _ _ h => h) (Or.inl ⟨by rfl, ?_⟩) ?_ ?_
              rotate_left
              ·intro w'
               go_simp
               with_reducible rfl
              rotate_left
              ·simp only [Act.put, List.setIfInBounds_toArray, List.set_cons_zero, List.set_cons_succ, i64_w, i32_w]
               rfl
              refine pure_ (i := 2) (N := some 159) (v := ?_) (a' := ?_) #[true, true, true, false, false, false, false, false, false, false, false, false, false, false, false] rfl rfl (any_of HT_.out (by kernel_rfl)) (fun _ _ _ h => h) (Or.inl ⟨by rfl, ?_⟩) ?_ ?_
              rotate_left
              ·intro w'
               go_simp
               with_reducible rfl
              rotate_left
              ·simp only [Act.put, List.setIfInBounds_toArray, List.set_cons_zero, List.set_cons_succ, i64_w, i32_w]
               rfl
              refine pure_ (i := 4) (N := some 161) (v := ?_) (a' := ?_) #[true, true, true, false, true, false, false, false, false, false, false, false, false, false, false] rfl rfl (any_of HT_.out (by kernel_rfl)) (fun _ _ _ h => h) (Or.inl ⟨by rfl, ?_⟩) ?_ ?_
              rotate_left
              ·intro w'
               go_simp
               with_reducible rfl
              rotate_left
              ·simp only [Act.put, List.setIfInBounds_toArray, List.set_cons_zero, List.set_cons_succ, i64_w, i32_w]
               rfl
              refine pure_ (i := 5) (N := some 162) (v := ?_) (a' := ?_) #[true, true, true, false, true, true, false, false, false, false, false, false, false, false, false] rfl rfl (any_of HT_.out (by kernel_rfl)) (fun _ _ _ h => h) (Or.inl ⟨by rfl, ?_⟩) ?_ ?_
              rotate_left
              ·intro w'
               go_simp
               with_reducible rfl
              rotate_left
              ·simp only [Act.put, List.setIfInBounds_toArray, List.set_cons_zero, List.set_cons_succ, i64_w, i32_w]
               rfl
              refine take_ (i := 3) (N := some 160) (v := ?_) (a' := ?_) #[true, true, true, true, true, true, false, false, false, false, false, false, false, false, false] rfl rfl (take_ofW HT_.out HW_.out (by kernel_rfl)) (fun _ _ _ h => h) (Or.inl ⟨by rfl, ?_⟩) hHeld ?_ ?_
              rotate_left
              ·intro w' s0
               go_simp
               with_reducible rfl
              rotate_left
              ·simp only [Act.put, List.setIfInBounds_toArray, List.set_cons_zero, List.set_cons_succ, i64_w, i32_w]
               rfl
              refine join_ (σ := Value × Value) 7 #[true, true, true, true, true, true, true, true, false, false, false, false, false, false, false] (fun s_ => [(163, s_.1), (164, s_.2)]) (fun s_ w' => (w'.cell? (ad586.add (x5_1).toNat) = some (.slice A613_0 (rd_L5 t579 x5_1).length c613_0)) ∧ (Kd.V k24 24 w' w.heap.size (fun k_ => some k_ ≠ (s_.1 : Value).ownBlock ∧ some k_ ≠ (s_.2 : Value).ownBlock ∧ some k_ ≠ (.slice (some ad586) t579.length co21 : Value).ownBlock ∧ some k_ ≠ (.slice Ao102 y582.length co102 : Value).ownBlock ∧ some k_ ≠ (.slice Ao103 x6_19.length co103 : Value).ownBlock ∧ k_ ≠ gb577) (.slice A613_0 (rd_L5 t579 x5_1).length c613_0) (rd_L5 t579 x5_1)) ∧ (Kd.R (Kd.int .i64) 3 w' w.heap.size (fun k_ => some k_ ≠ (s_.2 : Value).ownBlock ∧ some k_ ≠ (.slice Ao103 x6_19.length co103 : Value).ownBlock) s_.1 t614) ∧ (Kd.R (Kd.int .i64) 3 w' w.heap.size (fun k_ => some k_ ≠ (s_.1 : Value).ownBlock ∧ some k_ ≠ (.slice Ao103 x6_19.length co103 : Value).ownBlock) s_.2 y617) ∧ (Kd.N (Kd.slice 24 k24) 22 w' w.heap.size (fun k_ => some k_ ≠ (s_.1 : Value).ownBlock ∧ some k_ ≠ (s_.2 : Value).ownBlock ∧ some k_ ≠ (.slice Ao102 y582.length co102 : Value).ownBlock ∧ some k_ ≠ (.slice Ao103 x6_19.length co103 : Value).ownBlock ∧ k_ ≠ gb577) (.slice (some ad586) t579.length co21) t579) ∧ (Kd.R k24 24 w' w.heap.size (fun _ => True) (.slice Ao102 y582.length co102) y582) ∧ (Kd.R (Kd.int .i64) 3 w' w.heap.size (fun k_ => some k_ ≠ (s_.1 : Value).ownBlock ∧ some k_ ≠ (s_.2 : Value).ownBlock) (.slice Ao103 x6_19.length co103) x6_19) ∧ (w'.heap[gb577]? = some (.cells #[.slice A0_0 l0_0.length c0_0, .int .i64 a0_1, .int .i64 a0_2, .int .i64 a0_3, .int .i64 a0_4, .int .i64 a0_5, .string a0_6, .slice A0_7 l0_7.length c0_7] 27 (0, 0))) ∧ (Below w.heap.size w w')) ?_ ?_
              rotate_left
              ·intro hCont
               refine two_ (i := 6) (j := 7) (Ni := some 163) (Nj := some 164) #[true, true, true, true, true, true, true, false, false, false, false, false, false, false, false] #[true, true, true, true, true, true, false, true, false, false, false, false, false, false, false] rfl rfl rfl rfl (two_of HT_.out (by kernel_rfl)) (by decide) (by decide) (fun K hK => ?_) (fun K hK => ?_)
               ·skip
                refine goes_ Try.func37 (by kernel_rfl) rfl #[.slice Ao103 x6_19.length co103] (by rfl) rfl rfl (by (try simp only [List.map_toArray, List.map_cons, List.map_nil]); first | done | rfl) ?_
                with_reducible refine (r0_CopyNumbers.calls k3 _ _ x6_19 t614 _ ?side1 ?side2 A86.out).mono ?_
                (case side1 => repeat (first | exact (Kd.R_reads' HO_6.out).2.2 | (with_reducible refine Kd.C_alloc ?_ _) | (with_reducible refine Kd.C_drewN ?_ _) | (with_reducible refine Kd.C_drew ?_)))
                (case side2 => exact (Kd.R_reads' HO_6.out).2.1)
                rintro e w105 ⟨v615, rfl, ho0, hb⟩
                have HS0_ := (hb.cell (World.block_lt_of_cell? _ _ (hHeld))).trans (hHeld)
                refine ⟨_, rfl, ?_⟩
                have n0_ := As_.mk (Kd.N_elder' (by (with_reducible repeat (first | apply Kd.N_alloc | apply Kd.N_drewN | apply Kd.N_drew)); exact HO_3.out) (Kd.R_base ho0) hb)
                have n1_ := As_.mk (Kd.R_below (by (with_reducible repeat (first | apply Kd.R_alloc | apply Kd.R_drewN | apply Kd.R_drew)); exact HO_4.out) hb)
                have n2_ := As_.mk (Kd.R_elder' (by (with_reducible repeat (first | apply Kd.R_alloc | apply Kd.R_drewN | apply Kd.R_drew)); exact HO_6.out) (Kd.R_base ho0) hb)
                have n3_ := As_.mk (Kd.V_elder' (by (with_reducible repeat (first | apply Kd.V_alloc | apply Kd.V_drewN | apply Kd.V_drew)); exact HL613_0.out) (Kd.R_base ho0) hb)
                have n4_ := As_.mk (Kd.R_lower (Kd.R_new' ho0 (Kd.R_lt (by (with_reducible repeat (first | apply Kd.R_alloc | apply Kd.R_drewN | apply Kd.R_drew)); exact HO_6.out))) (bY_ (by repeat (first | (with_reducible first | exact HB.out | apply bA_ | apply bN_ | apply b1_ | refine bS_ ?_ GE577.out) | exact HB.out))))
                have n5_ := As_.mk (kB_ (g := gb577) (o := .cells #[.slice A0_0 l0_0.length c0_0, .int .i64 a0_1, .int .i64 a0_2, .int .i64 a0_3, .int .i64 a0_4, .int .i64 a0_5, .string a0_6, .slice A0_7 l0_7.length c0_7] 27 (0, 0)) (by (with_reducible repeat (first | refine kN_ ?_ _ | refine kD_ ?_ | refine kA_ ?_ _)); exact BK577.out) hb)
                have n6_ := As_.mk (Kd.C_below (by repeat (first | (with_reducible exact HR613_0.out) | (with_reducible refine Kd.C_alloc ?_ _) | (with_reducible refine Kd.C_drewN ?_ _) | (with_reducible refine Kd.C_drew ?_) | exact HR613_0.out)) hb)
                have n7_ := As_.mk (bT_ (by repeat (first | (with_reducible first | exact HB.out | apply bA_ | apply bN_ | apply b1_ | refine bS_ ?_ GE577.out) | exact HB.out)) hb)
                clear HO_3
                clear HO_4
                clear HO_6
                clear HL613_0
                clear BK577
                clear HR613_0
                clear HB
                have HO_3 := n0_
                have HO_4 := n1_
                have HO_6 := n2_
                have HL613_0 := n3_
                have HO616 := n4_
                have BK577 := n5_
                have HR613_0 := n6_
                have HB := n7_
                clear n0_ n1_ n2_ n3_ n4_ n5_ n6_ n7_
                refine hK.out _ _ (HS0_) (fun hHeld => ?_)
                clear hK K
                refine norm_ (a' := ?_) ?_ ?_
                rotate_left
                ·show Act.put _ (some 163) _ = _
                 simp only [Act.put, List.setIfInBounds_toArray, List.set_cons_zero, List.set_cons_succ, i64_w, i32_w]
                 rfl
                refine one_ (i := 7) (N := some 164) #[true, true, true, true, true, true, true, true, false, false, false, false, false, false, false] rfl rfl (one_of HT_.out (by kernel_rfl)) (by decide) (fun K hK => ?_)
                refine Kd.R_lit_step (Kd.int .i64) _ 3 ?hg (N := 164) ?hd (xs := ([0] : List Int)) (inner := [.int .i64 0]) (ok := fun _ => True) (okp := fun _ => True) ?hr ?hp (fun _ hk => hk) trivial (Below.refl _ _) (Nat.le_refl _) (by simp) ?_; (case hd => rfl); (case hg => rfl); (case hr => first | (go_simp; done) | (go_simp; rfl)); (case hp => exact (Reps.one (show Kd.M (Kd.int .i64) _ _ _ 0 [.int .i64 0] from rfl) (Reps.none _ _)))
                intro v618 w106 ho107 hb hg_ hnew_
                have HS0_ := (hb.cell (World.block_lt_of_cell? _ _ (hHeld))).trans (hHeld)
                clear hg_ hnew_
                (first | rw [← Ny617.out] at ho107 | (simp only [Int.reduceToNat] at ho107; rw [← Ny617.out] at ho107))
                have n0_ := As_.mk (Kd.N_elder' (by (with_reducible repeat (first | apply Kd.N_alloc | apply Kd.N_drewN | apply Kd.N_drew)); exact HO_3.out) (Kd.R_base ho107) hb)
                have n1_ := As_.mk (Kd.R_below (by (with_reducible repeat (first | apply Kd.R_alloc | apply Kd.R_drewN | apply Kd.R_drew)); exact HO_4.out) hb)
                have n2_ := As_.mk (Kd.R_elder' (by (with_reducible repeat (first | apply Kd.R_alloc | apply Kd.R_drewN | apply Kd.R_drew)); exact HO_6.out) (Kd.R_base ho107) hb)
                have n3_ := As_.mk (Kd.V_elder' (by (with_reducible repeat (first | apply Kd.V_alloc | apply Kd.V_drewN | apply Kd.V_drew)); exact HL613_0.out) (Kd.R_base ho107) hb)
                have n4_ := As_.mk (Kd.R_elder' (by (with_reducible repeat (first | apply Kd.R_alloc | apply Kd.R_drewN | apply Kd.R_drew)); exact HO616.out) (Kd.R_base ho107) hb)
                have n5_ := As_.mk (Kd.R_lower (Kd.R_new' (Kd.R_new' ho107 (Kd.R_lt (by (with_reducible repeat (first | apply Kd.R_alloc | apply Kd.R_drewN | apply Kd.R_drew)); exact HO_6.out))) (Kd.R_lt (by (with_reducible repeat (first | apply Kd.R_alloc | apply Kd.R_drewN | apply Kd.R_drew)); exact HO616.out))) (bY_ (by repeat (first | (with_reducible first | exact HB.out | apply bA_ | apply bN_ | apply b1_ | refine bS_ ?_ GE577.out) | exact HB.out))))
                have n6_ := As_.mk (kB_ (g := gb577) (o := .cells #[.slice A0_0 l0_0.length c0_0, .int .i64 a0_1, .int .i64 a0_2, .int .i64 a0_3, .int .i64 a0_4, .int .i64 a0_5, .string a0_6, .slice A0_7 l0_7.length c0_7] 27 (0, 0)) (by (with_reducible repeat (first | refine kN_ ?_ _ | refine kD_ ?_ | refine kA_ ?_ _)); exact BK577.out) hb)
                have n7_ := As_.mk (Kd.C_below (by repeat (first | (with_reducible exact HR613_0.out) | (with_reducible refine Kd.C_alloc ?_ _) | (with_reducible refine Kd.C_drewN ?_ _) | (with_reducible refine Kd.C_drew ?_) | exact HR613_0.out)) hb)
                have n8_ := As_.mk (bT_ (by repeat (first | (with_reducible first | exact HB.out | apply bA_ | apply bN_ | apply b1_ | refine bS_ ?_ GE577.out) | exact HB.out)) hb)
                clear HO_3
                clear HO_4
                clear HO_6
                clear HL613_0
                clear HO616
                clear BK577
                clear HR613_0
                clear HB
                have HO_3 := n0_
                have HO_4 := n1_
                have HO_6 := n2_
                have HL613_0 := n3_
                have HO616 := n4_
                have HO619 := n5_
                have BK577 := n6_
                have HR613_0 := n7_
                have HB := n8_
                clear n0_ n1_ n2_ n3_ n4_ n5_ n6_ n7_ n8_
                clear hb ho107
                refine hK.out _ _ (HS0_) (fun hHeld => ?_)
                clear hK K
                refine norm_ (a' := ?_) ?_ ?_
                rotate_left
                ·show Act.put _ (some 164) _ = _
                 simp only [Act.put, List.setIfInBounds_toArray, List.set_cons_zero, List.set_cons_succ, i64_w, i32_w]
                 rfl
                exact norm_ (by simp only [putAll, Act.put, List.setIfInBounds_toArray, List.set_cons_zero, List.set_cons_succ]) (hCont (v615, v618) _ ⟨hHeld, (by (with_reducible repeat (first | apply Kd.V_alloc | apply Kd.V_drewN | apply Kd.V_drew)); exact Kd.V_mono HL613_0.out (fun _ hk => ⟨hk.1.2, ⟨hk.2, ⟨hk.1.1.2, ⟨hk.1.1.1.1, ⟨hk.1.1.1.2.1, hk.1.1.1.2.2⟩⟩⟩⟩⟩)), (by (with_reducible repeat (first | apply Kd.R_alloc | apply Kd.R_drewN | apply Kd.R_drew)); exact Kd.R_mono HO616.out (fun _ hk => ⟨hk.2, hk.1.2⟩)), (by (with_reducible repeat (first | apply Kd.R_alloc | apply Kd.R_drewN | apply Kd.R_drew)); exact Kd.R_mono HO619.out (fun _ hk => ⟨hk.2, hk.1.2⟩)), (by (with_reducible repeat (first | apply Kd.N_alloc | apply Kd.N_drewN | apply Kd.N_drew)); exact Kd.N_mono HO_3.out (fun _ hk => ⟨hk.1.2, ⟨hk.2, ⟨hk.1.1.1, ⟨hk.1.1.2.1, hk.1.1.2.2⟩⟩⟩⟩)), (by (with_reducible repeat (first | apply Kd.R_alloc | apply Kd.R_drewN | apply Kd.R_drew)); exact HO_4.out), (by (with_reducible repeat (first | apply Kd.R_alloc | apply Kd.R_drewN | apply Kd.R_drew)); exact Kd.R_mono HO_6.out (fun _ hk => ⟨hk.1.2, hk.2⟩)), (by (with_reducible repeat (first | refine kN_ ?_ _ | refine kD_ ?_ | refine kA_ ?_ _)); exact BK577.out), (by repeat (first | (with_reducible first | exact HB.out | apply bA_ | apply bN_ | apply b1_ | refine bS_ ?_ GE577.out) | exact HB.out))⟩)
               skip
               refine Kd.R_lit_step (Kd.int .i64) _ 3 ?hg (N := 164) ?hd (xs := ([0] : List Int)) (inner := [.int .i64 0]) (ok := fun _ => True) (okp := fun _ => True) ?hr ?hp (fun _ hk => hk) trivial (Below.refl _ _) (Nat.le_refl _) (by simp) ?_; (case hd => rfl); (case hg => rfl); (case hr => first | (go_simp; done) | (go_simp; rfl)); (case hp => exact (Reps.one (show Kd.M (Kd.int .i64) _ _ _ 0 [.int .i64 0] from rfl) (Reps.none _ _)))
               intro v618 w105 ho106 hb hg_ hnew_
               have HS0_ := (hb.cell (World.block_lt_of_cell? _ _ (hHeld))).trans (hHeld)
               clear hg_ hnew_
               (first | rw [← Ny617.out] at ho106 | (simp only [Int.reduceToNat] at ho106; rw [← Ny617.out] at ho106))
               have n0_ := As_.mk (Kd.N_elder' (by (with_reducible repeat (first | apply Kd.N_alloc | apply Kd.N_drewN | apply Kd.N_drew)); exact HO_3.out) (Kd.R_base ho106) hb)
               have n1_ := As_.mk (Kd.R_below (by (with_reducible repeat (first | apply Kd.R_alloc | apply Kd.R_drewN | apply Kd.R_drew)); exact HO_4.out) hb)
               have n2_ := As_.mk (Kd.R_elder' (by (with_reducible repeat (first | apply Kd.R_alloc | apply Kd.R_drewN | apply Kd.R_drew)); exact HO_6.out) (Kd.R_base ho106) hb)
               have n3_ := As_.mk (Kd.V_elder' (by (with_reducible repeat (first | apply Kd.V_alloc | apply Kd.V_drewN | apply Kd.V_drew)); exact HL613_0.out) (Kd.R_base ho106) hb)
               have n4_ := As_.mk (Kd.R_lower (Kd.R_new' ho106 (Kd.R_lt (by (with_reducible repeat (first | apply Kd.R_alloc | apply Kd.R_drewN | apply Kd.R_drew)); exact HO_6.out))) (bY_ (by repeat (first | (with_reducible first | exact HB.out | apply bA_ | apply bN_ | apply b1_ | refine bS_ ?_ GE577.out) | exact HB.out))))
               have n5_ := As_.mk (kB_ (g := gb577) (o := .cells #[.slice A0_0 l0_0.length c0_0, .int .i64 a0_1, .int .i64 a0_2, .int .i64 a0_3, .int .i64 a0_4, .int .i64 a0_5, .string a0_6, .slice A0_7 l0_7.length c0_7] 27 (0, 0)) (by (with_reducible repeat (first | refine kN_ ?_ _ | refine kD_ ?_ | refine kA_ ?_ _)); exact BK577.out) hb)
               have n6_ := As_.mk (Kd.C_below (by repeat (first | (with_reducible exact HR613_0.out) | (with_reducible refine Kd.C_alloc ?_ _) | (with_reducible refine Kd.C_drewN ?_ _) | (with_reducible refine Kd.C_drew ?_) | exact HR613_0.out)) hb)
               have n7_ := As_.mk (bT_ (by repeat (first | (with_reducible first | exact HB.out | apply bA_ | apply bN_ | apply b1_ | refine bS_ ?_ GE577.out) | exact HB.out)) hb)
               clear HO_3
               clear HO_4
               clear HO_6
               clear HL613_0
               clear BK577
               clear HR613_0
               clear HB
               have HO_3 := n0_
               have HO_4 := n1_
               have HO_6 := n2_
               have HL613_0 := n3_
               have HO619 := n4_
               have BK577 := n5_
               have HR613_0 := n6_
               have HB := n7_
               clear n0_ n1_ n2_ n3_ n4_ n5_ n6_ n7_
               clear hb ho106
               refine hK.out _ _ (HS0_) (fun hHeld => ?_)
               clear hK K
               refine norm_ (a' := ?_) ?_ ?_
               rotate_left
               ·show Act.put _ (some 164) _ = _
                simp only [Act.put, List.setIfInBounds_toArray, List.set_cons_zero, List.set_cons_succ, i64_w, i32_w]
                rfl
               refine one_ (i := 6) (N := some 163) #[true, true, true, true, true, true, true, true, false, false, false, false, false, false, false] rfl rfl (one_of HT_.out (by kernel_rfl)) (by decide) (fun K hK => ?_)
               refine goes_ Try.func37 (by kernel_rfl) rfl #[.slice Ao103 x6_19.length co103] (by rfl) rfl rfl (by (try simp only [List.map_toArray, List.map_cons, List.map_nil]); first | done | rfl) ?_
               with_reducible refine (r0_CopyNumbers.calls k3 _ _ x6_19 t614 _ ?side1 ?side2 A86.out).mono ?_
               (case side1 => repeat (first | exact (Kd.R_reads' HO_6.out).2.2 | (with_reducible refine Kd.C_alloc ?_ _) | (with_reducible refine Kd.C_drewN ?_ _) | (with_reducible refine Kd.C_drew ?_)))
               (case side2 => exact (Kd.R_reads' HO_6.out).2.1)
               rintro e w107 ⟨v615, rfl, ho0, hb⟩
               have HS0_ := (hb.cell (World.block_lt_of_cell? _ _ (hHeld))).trans (hHeld)
               refine ⟨_, rfl, ?_⟩
               have n0_ := As_.mk (Kd.N_elder' (by (with_reducible repeat (first | apply Kd.N_alloc | apply Kd.N_drewN | apply Kd.N_drew)); exact HO_3.out) (Kd.R_base ho0) hb)
               have n1_ := As_.mk (Kd.R_below (by (with_reducible repeat (first | apply Kd.R_alloc | apply Kd.R_drewN | apply Kd.R_drew)); exact HO_4.out) hb)
               have n2_ := As_.mk (Kd.R_elder' (by (with_reducible repeat (first | apply Kd.R_alloc | apply Kd.R_drewN | apply Kd.R_drew)); exact HO_6.out) (Kd.R_base ho0) hb)
               have n3_ := As_.mk (Kd.V_elder' (by (with_reducible repeat (first | apply Kd.V_alloc | apply Kd.V_drewN | apply Kd.V_drew)); exact HL613_0.out) (Kd.R_base ho0) hb)
               have n4_ := As_.mk (Kd.R_elder' (by (with_reducible repeat (first | apply Kd.R_alloc | apply Kd.R_drewN | apply Kd.R_drew)); exact HO619.out) (Kd.R_base ho0) hb)
               have n5_ := As_.mk (Kd.R_lower (Kd.R_new' (Kd.R_new' ho0 (Kd.R_lt (by (with_reducible repeat (first | apply Kd.R_alloc | apply Kd.R_drewN | apply Kd.R_drew)); exact HO_6.out))) (Kd.R_lt (by (with_reducible repeat (first | apply Kd.R_alloc | apply Kd.R_drewN | apply Kd.R_drew)); exact HO619.out))) (bY_ (by repeat (first | (with_reducible first | exact HB.out | apply bA_ | apply bN_ | apply b1_ | refine bS_ ?_ GE577.out) | exact HB.out))))
               have n6_ := As_.mk (kB_ (g := gb577) (o := .cells #[.slice A0_0 l0_0.length c0_0, .int .i64 a0_1, .int .i64 a0_2, .int .i64 a0_3, .int .i64 a0_4, .int .i64 a0_5, .string a0_6, .slice A0_7 l0_7.length c0_7] 27 (0, 0)) (by (with_reducible repeat (first | refine kN_ ?_ _ | refine kD_ ?_ | refine kA_ ?_ _)); exact BK577.out) hb)
               have n7_ := As_.mk (Kd.C_below (by repeat (first | (with_reducible exact HR613_0.out) | (with_reducible refine Kd.C_alloc ?_ _) | (with_reducible refine Kd.C_drewN ?_ _) | (with_reducible refine Kd.C_drew ?_) | exact HR613_0.out)) hb)
               have n8_ := As_.mk (bT_ (by repeat (first | (with_reducible first | exact HB.out | apply bA_ | apply bN_ | apply b1_ | refine bS_ ?_ GE577.out) | exact HB.out)) hb)
               clear HO_3
               clear HO_4
               clear HO_6
               clear HL613_0
               clear HO619
               clear BK577
               clear HR613_0
               clear HB
               have HO_3 := n0_
               have HO_4 := n1_
               have HO_6 := n2_
               have HL613_0 := n3_
               have HO619 := n4_
               have HO616 := n5_
               have BK577 := n6_
               have HR613_0 := n7_
               have HB := n8_
               clear n0_ n1_ n2_ n3_ n4_ n5_ n6_ n7_ n8_
               refine hK.out _ _ (HS0_) (fun hHeld => ?_)
               clear hK K
               refine norm_ (a' := ?_) ?_ ?_
               rotate_left
               ·show Act.put _ (some 163) _ = _
                simp only [Act.put, List.setIfInBounds_toArray, List.set_cons_zero, List.set_cons_succ, i64_w, i32_w]
                rfl
               exact norm_ (by simp only [putAll, Act.put, List.setIfInBounds_toArray, List.set_cons_zero, List.set_cons_succ]) (hCont (v615, v618) _ ⟨hHeld, (by (with_reducible repeat (first | apply Kd.V_alloc | apply Kd.V_drewN | apply Kd.V_drew)); exact Kd.V_mono HL613_0.out (fun _ hk => ⟨hk.2, ⟨hk.1.2, ⟨hk.1.1.2, ⟨hk.1.1.1.1, ⟨hk.1.1.1.2.1, hk.1.1.1.2.2⟩⟩⟩⟩⟩)), (by (with_reducible repeat (first | apply Kd.R_alloc | apply Kd.R_drewN | apply Kd.R_drew)); exact Kd.R_mono HO616.out (fun _ hk => ⟨hk.2, hk.1.2⟩)), (by (with_reducible repeat (first | apply Kd.R_alloc | apply Kd.R_drewN | apply Kd.R_drew)); exact Kd.R_mono HO619.out (fun _ hk => ⟨hk.2, hk.1.2⟩)), (by (with_reducible repeat (first | apply Kd.N_alloc | apply Kd.N_drewN | apply Kd.N_drew)); exact Kd.N_mono HO_3.out (fun _ hk => ⟨hk.2, ⟨hk.1.2, ⟨hk.1.1.1, ⟨hk.1.1.2.1, hk.1.1.2.2⟩⟩⟩⟩)), (by (with_reducible repeat (first | apply Kd.R_alloc | apply Kd.R_drewN | apply Kd.R_drew)); exact HO_4.out), (by (with_reducible repeat (first | apply Kd.R_alloc | apply Kd.R_drewN | apply Kd.R_drew)); exact Kd.R_mono HO_6.out (fun _ hk => ⟨hk.2, hk.1.2⟩)), (by (with_reducible repeat (first | refine kN_ ?_ _ | refine kD_ ?_ | refine kA_ ?_ _)); exact BK577.out), (by repeat (first | (with_reducible first | exact HB.out | apply bA_ | apply bN_ | apply b1_ | refine bS_ ?_ GE577.out) | exact HB.out))⟩)
              rintro ⟨v615, v618⟩ w108 ⟨hS_, h0_, h1_, h2_, h3_, h4_, h5_, h6_, h7_⟩
              have n0_ : As_ (Kd.V k24 24 w108 w.heap.size (fun k_ => some k_ ≠ (v615 : Value).ownBlock ∧ some k_ ≠ (v618 : Value).ownBlock ∧ some k_ ≠ (.slice (some ad586) t579.length co21 : Value).ownBlock ∧ some k_ ≠ (.slice Ao102 y582.length co102 : Value).ownBlock ∧ some k_ ≠ (.slice Ao103 x6_19.length co103 : Value).ownBlock ∧ k_ ≠ gb577) (.slice A613_0 (rd_L5 t579 x5_1).length c613_0) (rd_L5 t579 x5_1)) := ⟨h0_⟩
              have n1_ : As_ (Kd.R (Kd.int .i64) 3 w108 w.heap.size (fun k_ => some k_ ≠ (v618 : Value).ownBlock ∧ some k_ ≠ (.slice Ao103 x6_19.length co103 : Value).ownBlock) v615 t614) := ⟨h1_⟩
              have n2_ : As_ (Kd.R (Kd.int .i64) 3 w108 w.heap.size (fun k_ => some k_ ≠ (v615 : Value).ownBlock ∧ some k_ ≠ (.slice Ao103 x6_19.length co103 : Value).ownBlock) v618 y617) := ⟨h2_⟩
              have n3_ : As_ (Kd.N (Kd.slice 24 k24) 22 w108 w.heap.size (fun k_ => some k_ ≠ (v615 : Value).ownBlock ∧ some k_ ≠ (v618 : Value).ownBlock ∧ some k_ ≠ (.slice Ao102 y582.length co102 : Value).ownBlock ∧ some k_ ≠ (.slice Ao103 x6_19.length co103 : Value).ownBlock ∧ k_ ≠ gb577) (.slice (some ad586) t579.length co21) t579) := ⟨h3_⟩
              have n4_ : As_ (Kd.R k24 24 w108 w.heap.size (fun _ => True) (.slice Ao102 y582.length co102) y582) := ⟨h4_⟩
              have n5_ : As_ (Kd.R (Kd.int .i64) 3 w108 w.heap.size (fun k_ => some k_ ≠ (v615 : Value).ownBlock ∧ some k_ ≠ (v618 : Value).ownBlock) (.slice Ao103 x6_19.length co103) x6_19) := ⟨h5_⟩
              have n6_ : As_ (w108.heap[gb577]? = some (.cells #[.slice A0_0 l0_0.length c0_0, .int .i64 a0_1, .int .i64 a0_2, .int .i64 a0_3, .int .i64 a0_4, .int .i64 a0_5, .string a0_6, .slice A0_7 l0_7.length c0_7] 27 (0, 0))) := ⟨h6_⟩
              have n7_ : As_ (Below w.heap.size w w108) := ⟨h7_⟩
              clear HO_3
              clear HO_4
              clear HO_6
              clear BK577
              clear HB
              clear h0_ h1_ h2_ h3_ h4_ h5_ h6_ h7_
              have HL613_0 := n0_
              have HO616 := n1_
              have HO619 := n2_
              have HO_3 := n3_
              have HO_4 := n4_
              have HO_6 := n5_
              have BK577 := n6_
              have HB := n7_
              clear n0_ n1_ n2_ n3_ n4_ n5_ n6_ n7_
              have hHeld : w108.cell? (ad586.add (x5_1).toNat) = some (.slice A613_0 (rd_L5 t579 x5_1).length c613_0) := hS_
              obtain ⟨Ao110, co110, eo110⟩ := Kd.R_slice HO619.out
              (first | subst eo110 | (injection eo110 with f1_ f2_ f3_; have f4_ := f1_.symm; have f5_ := f3_.symm; clear f1_ f2_ f3_; subst f4_; subst f5_))
              refine norm_ (a' := ?_) ?_ ?_
              rotate_left
              ·simp only [putAll, Act.put, List.setIfInBounds_toArray, List.set_cons_zero, List.set_cons_succ]
               rfl
              refine one_ (i := 8) (N := some 165) #[true, true, true, true, true, true, true, true, true, false, false, false, false, false, false] rfl rfl (one_of HT_.out (by kernel_rfl)) (by decide) (fun K hK => ?_)
              refine Kd.R_append_rows_step (Kd.int .i64) (w0 := w) w.heap.size (by rfl) (.tmp 163) (.tmp 164) 25 3 (.int .i64 0) 8 rfl Try.underlying25 info3 rfl (by decide) (by omega) v615 t614 y617 _ _ _ (fun k_ => some k_ ≠ (.slice Ao103 x6_19.length co103 : Value).ownBlock ∧ some k_ ≠ (.slice Ao110 y617.length co110 : Value).ownBlock) (fun _ => False) rfl rfl ?aO ?aR (fun _ _ h => h) (fun _ h => h.elim) ?aF ?aB ?aS ?aL ?_
              (case aR => repeat (first | exact (Kd.R_reads' HO619.out).2.2 | (with_reducible refine Kd.C_alloc ?_ _) | (with_reducible refine Kd.C_drewN ?_ _) | (with_reducible refine Kd.C_drew ?_)))
              (case aB => exact (by repeat (first | (with_reducible first | exact HB.out | apply bA_ | apply bN_ | apply b1_ | refine bS_ ?_ GE577.out) | exact HB.out)))
              (case aF => exact (fun k_ hk => ⟨Kd.fresh' (Kd.R_lt (by (with_reducible repeat (first | apply Kd.R_alloc | apply Kd.R_drewN | apply Kd.R_drew)); exact HO_6.out)) k_ hk, Kd.fresh' (Kd.R_lt (by (with_reducible repeat (first | apply Kd.R_alloc | apply Kd.R_drewN | apply Kd.R_drew)); exact HO619.out)) k_ hk⟩))
              (case aO => exact (by (with_reducible repeat (first | apply Kd.R_alloc | apply Kd.R_drewN | apply Kd.R_drew)); exact Kd.R_mono HO616.out (fun _ hk => ⟨hk.2, hk.1⟩)))
              (case aS => exact (bY_ (by repeat (first | (with_reducible first | exact HB.out | apply bA_ | apply bN_ | apply b1_ | refine bS_ ?_ GE577.out) | exact HB.out))))
              (case aL => have := LMc87.out; omega)
              intro v621 w109 ho hb hg hat
              have HS0_ := cell_grown hg (hHeld) (by obtain ⟨c_, h_⟩ := Kd.N_typed HO_3.out _ rfl; first | (rw [add_block]; exact Kd.R_ne HO616.out h_ (by decide)) | exact Kd.R_ne HO616.out h_ (by decide))
              rw [← Ny620.out] at ho
              have n0_ := As_.mk (Kd.N_afterv (ok := (fun k_ => some k_ ≠ (.slice Ao102 y582.length co102 : Value).ownBlock ∧ some k_ ≠ (.slice Ao103 x6_19.length co103 : Value).ownBlock ∧ some k_ ≠ (.slice Ao110 y617.length co110 : Value).ownBlock ∧ k_ ≠ gb577)) (by (with_reducible repeat (first | apply Kd.N_alloc | apply Kd.N_drewN | apply Kd.N_drew)); exact Kd.N_mono HO_3.out (fun _ hk => ⟨⟨hk.2.2.1, ⟨hk.2.2.2.1, ⟨hk.2.1, hk.2.2.2.2⟩⟩⟩, hk.1⟩)) hg hat)
              have n1_ := As_.mk (Kd.R_over' (by (with_reducible repeat (first | apply Kd.R_alloc | apply Kd.R_drewN | apply Kd.R_drew)); exact HO_4.out) (Kd.R_typed (by (with_reducible repeat (first | apply Kd.R_alloc | apply Kd.R_drewN | apply Kd.R_drew)); exact HO616.out)) (by decide) hg)
              have n2_ := As_.mk (Kd.R_after (ok := (fun k_ => some k_ ≠ (.slice Ao110 y617.length co110 : Value).ownBlock)) (by (with_reducible repeat (first | apply Kd.R_alloc | apply Kd.R_drewN | apply Kd.R_drew)); exact Kd.R_mono HO_6.out (fun _ hk => ⟨hk.2, hk.1⟩)) hg hat)
              have n3_ := As_.mk (blk_grown (g := gb577) (o := .cells #[.slice A0_0 l0_0.length c0_0, .int .i64 a0_1, .int .i64 a0_2, .int .i64 a0_3, .int .i64 a0_4, .int .i64 a0_5, .string a0_6, .slice A0_7 l0_7.length c0_7] 27 (0, 0)) (by (with_reducible repeat (first | refine kN_ ?_ _ | refine kD_ ?_ | refine kA_ ?_ _)); exact BK577.out) hg (Kd.R_ne HO616.out BK577.out (by decide)))
              have n4_ := As_.mk (Kd.V_afterv (ok := (fun k_ => some k_ ≠ (.slice (some ad586) t579.length co21 : Value).ownBlock ∧ some k_ ≠ (.slice Ao102 y582.length co102 : Value).ownBlock ∧ some k_ ≠ (.slice Ao103 x6_19.length co103 : Value).ownBlock ∧ some k_ ≠ (.slice Ao110 y617.length co110 : Value).ownBlock ∧ k_ ≠ gb577)) (by (with_reducible repeat (first | apply Kd.V_alloc | apply Kd.V_drewN | apply Kd.V_drew)); exact Kd.V_mono HL613_0.out (fun _ hk => ⟨⟨hk.2.2.1, ⟨hk.2.2.2.1, ⟨hk.2.2.2.2.1, ⟨hk.2.1, hk.2.2.2.2.2⟩⟩⟩⟩, hk.1⟩)) hg hat)
              have n5_ := As_.mk (Kd.R_after (ok := (fun k_ => some k_ ≠ (.slice Ao103 x6_19.length co103 : Value).ownBlock)) (by (with_reducible repeat (first | apply Kd.R_alloc | apply Kd.R_drewN | apply Kd.R_drew)); exact Kd.R_mono HO619.out (fun _ hk => ⟨hk.2, hk.1⟩)) hg hat)
              have n6_ := As_.mk (hb)
              have n7_ := As_.mk (ho)
              clear HO_3
              clear HO_4
              clear HO_6
              clear BK577
              clear HL613_0
              clear HO619
              clear HB
              clear HO616
              have HO_3 := n0_
              have HO_4 := n1_
              have HO_6 := n2_
              have BK577 := n3_
              have HL613_0 := n4_
              have HO619 := n5_
              have HB := n6_
              have HO622 := n7_
              clear n0_ n1_ n2_ n3_ n4_ n5_ n6_ n7_
              clear ho hb hg hat
              obtain ⟨Ao111, co111, eo111⟩ := Kd.R_slice HO622.out
              (first | subst eo111 | (injection eo111 with f1_ f2_ f3_; have f4_ := f1_.symm; have f5_ := f3_.symm; clear f1_ f2_ f3_; subst f4_; subst f5_))
              refine hK.out _ _ (HS0_) (fun hHeld => ?_)
              clear hK K
              refine norm_ (a' := ?_) ?_ ?_
              rotate_left
              ·show Act.put _ (some 165) _ = _
               simp only [Act.put, List.setIfInBounds_toArray, List.set_cons_zero, List.set_cons_succ, i64_w, i32_w]
               rfl
              refine one_ (i := 9) (N := some 166) #[true, true, true, true, true, true, true, true, true, true, false, false, false, false, false] rfl rfl (one_of HT_.out (by kernel_rfl)) (by decide) (fun K hK => ?_)
              refine goes_ Try.func38 (by kernel_rfl) rfl #[.slice A613_0 (rd_L5 t579 x5_1).length c613_0, .agg #[.int .i64 0, .int .i64 0, .int .i64 0, .int .i64 0, .int .i64 0, .string (⟨#[]⟩ : ByteArray)], .slice Ao111 y620.length co111] (by rfl) rfl rfl (by (try simp only [List.map_toArray, List.map_cons, List.map_nil]); first | done | rfl) ?_
              with_reducible refine (dag_Last.calls k3 _ _ (rd_L5 t579 x5_1) 0 0 0 0 0 (⟨#[]⟩ : ByteArray) _ _ y620 t623 t624 _ ?side1 ?side2 ?side3 ?side4 A88.out).mono ?_
              (case side1 => repeat (first | exact ((Kd.V_reads' (e := 0) (base := 0) (by (with_reducible repeat (first | apply Kd.V_alloc | apply Kd.V_drewN | apply Kd.V_drew)); exact HL613_0.out)).2.2) | (with_reducible refine Kd.C_alloc ?_ _) | (with_reducible refine Kd.C_drewN ?_ _) | (with_reducible refine Kd.C_drew ?_)))
              (case side2 => exact HC613_0.out)
              (case side3 => repeat (first | exact (Kd.R_reads' HO622.out).2.2 | (with_reducible refine Kd.C_alloc ?_ _) | (with_reducible refine Kd.C_drewN ?_ _) | (with_reducible refine Kd.C_drew ?_)))
              (case side4 => exact (Kd.R_reads' HO622.out).2.1)
              rintro e w112 ⟨rfl, hb⟩
              have HS0_ := (hb.cell (World.block_lt_of_cell? _ _ (hHeld))).trans (hHeld)
              refine ⟨_, rfl, ?_⟩
              have n0_ := As_.mk (Kd.N_below (by (with_reducible repeat (first | apply Kd.N_alloc | apply Kd.N_drewN | apply Kd.N_drew)); exact HO_3.out) hb)
              have n1_ := As_.mk (Kd.R_below (by (with_reducible repeat (first | apply Kd.R_alloc | apply Kd.R_drewN | apply Kd.R_drew)); exact HO_4.out) hb)
              have n2_ := As_.mk (Kd.R_below (by (with_reducible repeat (first | apply Kd.R_alloc | apply Kd.R_drewN | apply Kd.R_drew)); exact HO_6.out) hb)
              have n3_ := As_.mk (Kd.V_below (by (with_reducible repeat (first | apply Kd.V_alloc | apply Kd.V_drewN | apply Kd.V_drew)); exact HL613_0.out) hb)
              have n4_ := As_.mk (Kd.R_below (by (with_reducible repeat (first | apply Kd.R_alloc | apply Kd.R_drewN | apply Kd.R_drew)); exact HO619.out) hb)
              have n5_ := As_.mk (Kd.R_below (by (with_reducible repeat (first | apply Kd.R_alloc | apply Kd.R_drewN | apply Kd.R_drew)); exact HO622.out) hb)
              have n6_ := As_.mk (kB_ (g := gb577) (o := .cells #[.slice A0_0 l0_0.length c0_0, .int .i64 a0_1, .int .i64 a0_2, .int .i64 a0_3, .int .i64 a0_4, .int .i64 a0_5, .string a0_6, .slice A0_7 l0_7.length c0_7] 27 (0, 0)) (by (with_reducible repeat (first | refine kN_ ?_ _ | refine kD_ ?_ | refine kA_ ?_ _)); exact BK577.out) hb)
              have n7_ := As_.mk (bT_ (by repeat (first | (with_reducible first | exact HB.out | apply bA_ | apply bN_ | apply b1_ | refine bS_ ?_ GE577.out) | exact HB.out)) hb)
              clear HO_3
              clear HO_4
              clear HO_6
              clear HL613_0
              clear HO619
              clear HO622
              clear BK577
              clear HB
              have HO_3 := n0_
              have HO_4 := n1_
              have HO_6 := n2_
              have HL613_0 := n3_
              have HO619 := n4_
              have HO622 := n5_
              have BK577 := n6_
              have HB := n7_
              clear n0_ n1_ n2_ n3_ n4_ n5_ n6_ n7_
              refine hK.out _ _ (HS0_) (fun hHeld => ?_)
              clear hK K
              refine norm_ (a' := ?_) ?_ ?_
              rotate_left
              ·show Act.put _ (some 166) _ = _
               simp only [Act.put, List.setIfInBounds_toArray, List.set_cons_zero, List.set_cons_succ, i64_w, i32_w]
               rfl
              refine pure_ (i := 10) (N := some 156) (v := ?_) (a' := ?_) #[true, true, true, true, true, true, true, true, true, true, true, false, false, false, false] rfl rfl (any_of HT_.out (by kernel_rfl)) (fun _ _ _ h => h) (Or.inl ⟨by rfl, ?_⟩) ?_ ?_
              rotate_left
              ·intro w'
               go_simp
               with_reducible rfl
              rotate_left
              ·simp only [Act.put, List.setIfInBounds_toArray, List.set_cons_zero, List.set_cons_succ, i64_w, i32_w]
               rfl
              refine pure_ (i := 11) (N := some 167) (v := ?_) (a' := ?_) #[true, true, true, true, true, true, true, true, true, true, true, true, false, false, false] rfl rfl (any_of HT_.out (by kernel_rfl)) (fun _ _ _ h => h) (Or.inl ⟨by rfl, ?_⟩) ?_ ?_
              rotate_left
              ·intro w'
               go_simp
               with_reducible rfl
              rotate_left
              ·simp only [Act.put, List.setIfInBounds_toArray, List.set_cons_zero, List.set_cons_succ, i64_w, i32_w]
               rfl
              refine pure_ (i := 12) (N := some 168) (v := ?_) (a' := ?_) #[true, true, true, true, true, true, true, true, true, true, true, true, true, false, false] rfl rfl (any_of HT_.out (by kernel_rfl)) (fun _ _ _ h => h) (Or.inl ⟨by rfl, ?_⟩) ?_ ?_
              rotate_left
              ·intro w'
               go_simp
               with_reducible rfl
              rotate_left
              ·simp only [Act.put, List.setIfInBounds_toArray, List.set_cons_zero, List.set_cons_succ, i64_w, i32_w]
               rfl
              refine pure_ (i := 13) (N := some 16) (v := ?_) (a' := ?_) #[true, true, true, true, true, true, true, true, true, true, true, true, true, true, false] rfl rfl (any_of HT_.out (by kernel_rfl)) (fun _ _ _ h => h) (Or.inl ⟨by rfl, ?_⟩) ?_ ?_
              rotate_left
              ·intro w'
               go_simp
               with_reducible rfl
              rotate_left
              ·simp only [Act.put, List.setIfInBounds_toArray, List.set_cons_zero, List.set_cons_succ, i64_w, i32_w]
               rfl
              refine pure_ (i := 14) (N := some 17) (v := ?_) (a' := ?_) #[true, true, true, true, true, true, true, true, true, true, true, true, true, true, true] rfl rfl (any_of HT_.out (by kernel_rfl)) (fun _ _ _ h => h) (Or.inl ⟨by rfl, ?_⟩) ?_ ?_
              rotate_left
              ·intro w'
               go_simp
               with_reducible rfl
              rotate_left
              ·simp only [Act.put, List.setIfInBounds_toArray, List.set_cons_zero, List.set_cons_succ, i64_w, i32_w]
               rfl
              refine done_ (done_of HT_.out (by kernel_rfl)) ?_
              try go_wp2_with (first | ((with_reducible refine gC_ (f := 21) rfl ?_); refine goesL_ (some 170) rfl rfl Try.func21 (by kernel_rfl) rfl #[.int .i64 t624] rfl (by (try simp only [List.map_toArray, List.map_cons, List.map_nil]); first | done | rfl) ?_; (with_reducible refine (w14_num.calls t624 t625 _ A89.out).mono ?_); rintro e w' ⟨rfl, ⟨nd, rfl⟩⟩; refine ⟨_, rfl, ?_⟩))
              go_ret
              exact ⟨by first | rfl | (simp [eN_, eS_] <;> rfl) | (simp [*, eN_, eS_] <;> rfl), by repeat (first | (with_reducible first | exact HB.out | apply bA_ | apply bN_ | apply b1_ | refine bS_ ?_ GE577.out) | exact HB.out)⟩
             rw [if_neg c87] at H
             exact absurd H (by simp)
            rw [if_neg c85] at H
            exact absurd H (by simp)
           rw [if_neg c84] at H
           exact absurd H (by simp)
      rw [if_neg c19] at H
      exact absurd H (by simp)
     rw [if_neg c18] at H
     exact absurd H (by simp)
    rw [if_neg c17] at H
    exact absurd H (by simp)
   rw [if_neg c16] at H
   have c16b0 : decide (x5_1 < (t579.length : Int)) = false := decide_eq_false c16
   clear c16
   replace H := Option.bind_eq_some_iff.mp H
   obtain ⟨t585, A1130, H⟩ := H
   replace H : (some t585) = some r := H
   have A113 := As_.mk A1130
   clear A1130
   obtain rfl := Option.some.inj H
   obtain ⟨Ao114, co114, eo114⟩ := Kd.N_slice HO_3.out
   subst eo114
   go_wp2_with (first | ((with_reducible refine gC_ (f := 26) rfl ?_); refine goesL_ (some 172) rfl rfl Try.func26 (by kernel_rfl) rfl #[] rfl (by (try simp only [List.map_toArray, List.map_cons, List.map_nil]); first | done | rfl) ?_; (with_reducible refine (w14_wakes.calls k1  t585 _ A113.out).mono ?_); rintro e w115 ⟨rfl, hb⟩; refine ⟨_, rfl, ?_⟩; have n0_ := As_.mk (Kd.N_below (by (with_reducible repeat (first | apply Kd.N_alloc | apply Kd.N_drewN | apply Kd.N_drew)); exact HO_3.out) hb); have n1_ := As_.mk (Kd.R_below (by (with_reducible repeat (first | apply Kd.R_alloc | apply Kd.R_drewN | apply Kd.R_drew)); exact HO_4.out) hb); have n2_ := As_.mk (kB_ (g := gb577) (o := .cells #[.slice A0_0 l0_0.length c0_0, .int .i64 a0_1, .int .i64 a0_2, .int .i64 a0_3, .int .i64 a0_4, .int .i64 a0_5, .string a0_6, .slice A0_7 l0_7.length c0_7] 27 (0, 0)) (by (with_reducible repeat (first | refine kN_ ?_ _ | refine kD_ ?_ | refine kA_ ?_ _)); exact BK577.out) hb); have n3_ := As_.mk (bT_ (by repeat (first | (with_reducible first | exact HB.out | apply bA_ | apply bN_ | apply b1_ | refine bS_ ?_ GE577.out) | exact HB.out)) hb); clear HO_3; clear HO_4; clear BK577; clear HB; have HO_3 := n0_; have HO_4 := n1_; have BK577 := n2_; have HB := n3_; clear n0_ n1_ n2_ n3_))
   go_ret
   exact ⟨by first | rfl | (simp [eN_, eS_] <;> rfl) | (simp [*, eN_, eS_] <;> rfl), by repeat (first | (with_reducible first | exact HB.out | apply bA_ | apply bN_ | apply b1_ | refine bS_ ?_ GE577.out) | exact HB.out)⟩
end Go.Proofs.Ytibfkkjkahpobaa.PDag
