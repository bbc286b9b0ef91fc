import Derived.Test.YtibfkkjkahpobaaJu15
import Derived.Test.YtibfkkjkahpobaaJu26
import Derived.Test.YtibfkkjkahpobaaJu32
import Derived.Test.YtibfkkjkahpobaaJu33
import Derived.Test.YtibfkkjkahpobaaJu28
section
-- the texts that this claim needs, out of this session's and its print's (wip/shrink.py)
namespace Go.Proofs.Ytibfkkjkahpobaa.PDag
open Go.RowKit Go.Proofs.YtibfkkjkahpobaaW.PrintWords Go.Proofs.YtibfkkjkahpobaaW.PrintLast Go.Proofs.YtibfkkjkahpobaaW.PrintMore
attribute [local go_sem] max2_int min2_int max_two min_two max_three min_three max_four min_four   -- for this text's walks alone
set_option linter.unusedVariables false
set_option linter.unusedSimpArgs false
mutual
def w15_SchedUrges.l0 : Nat → Int → List (S24) → Int → Int → Int → Int → Int → ByteArray → List Int → List ByteArray → List (S140) → List (S73) → List (S81) → Option (Bool)
  | 0, _, _, _, _, _, _, _, _, _, _, _, _, _ => none
  | k + 1, x3, x772a, x772b, x772c, x772d, x772e, x772f, x772g, x772h, x772i, x772j, x772010, x772011 => if x3 < 12 then ((w15_row.f k 24 3 (([14, 20, 1] : List Int))).bind fun t776 => ((some (([(⟨16, 5, 1, 2, 0, (⟨#[]⟩ : ByteArray)⟩ : S24), (⟨27, 0, 3, 0, 0, (⟨#[]⟩ : ByteArray)⟩ : S24), (⟨25, 0, 4, 6, 0, (⟨#[]⟩ : ByteArray)⟩ : S24)] : List (S24)) : List (S24))).bind fun y779 => (if 0 ≤ (Int.tmod (wrap64 (x3 + (x772011.length : Int))) 3) then (if (Int.tmod (wrap64 (x3 + (x772011.length : Int))) 3) < (y779.length : Int) then (if 0 ≤ x3 then (if x3 < (t776.length : Int) then ((sched_Cycles.f k (t776.set (x3 : Int).toNat (⟨(q24 y779 (Int.tmod (wrap64 (x3 + (x772011.length : Int))) 3)).f0, (q24 y779 (Int.tmod (wrap64 (x3 + (x772011.length : Int))) 3)).f1, (q24 y779 (Int.tmod (wrap64 (x3 + (x772011.length : Int))) 3)).f2, (q24 y779 (Int.tmod (wrap64 (x3 + (x772011.length : Int))) 3)).f3, (q24 y779 (Int.tmod (wrap64 (x3 + (x772011.length : Int))) 3)).f4, (q24 y779 (Int.tmod (wrap64 (x3 + (x772011.length : Int))) 3)).f5⟩ : S24))).bind fun bt784 => ((w15_num.f bt784.2.2).bind fun t791 => (if t791 = 0 then (if (bt784.1.length : Int) = (t776.length : Int) then (if x3 < (bt784.1.length : Int) then (w15_SchedUrges.j1 k x3 (decide ((rd bt784.1 x3) > (wrap64 (4 * x3)))) x772a x772b x772c x772d x772e x772f x772g x772h x772i x772j x772010 x772011) else (none)) else (w15_SchedUrges.j1 k x3 true x772a x772b x772c x772d x772e x772f x772g x772h x772i x772j x772010 x772011)) else (w15_SchedUrges.j1 k x3 true x772a x772b x772c x772d x772e x772f x772g x772h x772i x772j x772010 x772011)))) else (none)) else (none)) else (none)) else (none)))) else ((w15_wakes.f k).bind fun t772 => (some t772))
def w15_SchedUrges.j1 : Nat → Int → Bool → List (S24) → Int → Int → Int → Int → Int → ByteArray → List Int → List ByteArray → List (S140) → List (S73) → List (S81) → Option (Bool)
  | 0, _, _, _, _, _, _, _, _, _, _, _, _, _, _ => none
  | k + 1, x3, x53, x772a, x772b, x772c, x772d, x772e, x772f, x772g, x772h, x772i, x772j, x772010, x772011 => if x53 = true then (some false) else (w15_SchedUrges.l0 k (wrap64 (x3 + 1)) x772a x772b x772c x772d x772e x772f x772g x772h x772i x772j x772010 x772011)
end
def w15_SchedUrges.f (k : Nat) (l0_0 : List (S24)) (a0_1 : Int) (a0_2 : Int) (a0_3 : Int) (a0_4 : Int) (a0_5 : Int) (a0_6 : ByteArray) (l0_7 : List Int) (l0_8 : List ByteArray) (l0_9 : List (S140)) (l0_10 : List (S73)) (l0_11 : List (S81)) : Option (Bool) := w15_SchedUrges.l0 k 0 l0_0 a0_1 a0_2 a0_3 a0_4 a0_5 a0_6 l0_7 l0_8 l0_9 l0_10 l0_11
set_option maxHeartbeats 8000000 in
set_option maxRecDepth 100000 in
theorem w15_SchedUrges.calls (k : Nat) (A0_0 : Option Addr) (c0_0 : Nat) (l0_0 : List (S24)) (a0_1 : Int) (a0_2 : Int) (a0_3 : Int) (a0_4 : Int) (a0_5 : Int) (a0_6 : ByteArray) (A0_7 : Option Addr) (c0_7 : Nat) (l0_7 : List Int) (A0_8 : Option Addr) (c0_8 : Nat) (l0_8 : List ByteArray) (A0_9 : Option Addr) (c0_9 : Nat) (l0_9 : List (S140)) (A0_10 : Option Addr) (c0_10 : Nat) (l0_10 : List (S73)) (A0_11 : Option Addr) (c0_11 : Nat) (l0_11 : List (S81)) (r : Bool) (w : World) (hr0_0 : Kd.C k24 w A0_0 l0_0.length l0_0) (hc0_0 : l0_0.length ≤ c0_0) (hr0_7 : Kd.C (Kd.int .i64) w A0_7 l0_7.length l0_7) (hc0_7 : l0_7.length ≤ c0_7) (hr0_8 : Kd.C Kd.string w A0_8 l0_8.length l0_8) (hc0_8 : l0_8.length ≤ c0_8) (hr0_9 : Kd.C k140 w A0_9 l0_9.length l0_9) (hc0_9 : l0_9.length ≤ c0_9) (hr0_10 : Kd.C k73 w A0_10 l0_10.length l0_10) (hc0_10 : l0_10.length ≤ c0_10) (hr0_11 : Kd.C k81 w A0_11 l0_11.length l0_11) (hc0_11 : l0_11.length ≤ c0_11) (h : w15_SchedUrges.f k l0_0 a0_1 a0_2 a0_3 a0_4 a0_5 a0_6 l0_7 l0_8 l0_9 l0_10 l0_11 = some r) :
    Calls Try.prog 12 #[.agg #[.slice A0_0 l0_0.length c0_0, .int .i64 a0_1, .int .i64 a0_2, .int .i64 a0_3, .int .i64 a0_4, .int .i64 a0_5, .string a0_6, .slice A0_7 l0_7.length c0_7, .slice A0_8 l0_8.length c0_8, .slice A0_9 l0_9.length c0_9, .slice A0_10 l0_10.length c0_10, .slice A0_11 l0_11.length c0_11]] w fun e w' => e = .returned (.bool r) ∧ Below w.heap.size w w' := by
 have hu67 := Try.underlying67
 have hu24 := Try.underlying24
 have HR0_0 := As_.mk hr0_0
 have HC0_0 := As_.mk hc0_0
 clear hr0_0 hc0_0
 have HR0_7 := As_.mk hr0_7
 have HC0_7 := As_.mk hc0_7
 clear hr0_7 hc0_7
 have HR0_8 := As_.mk hr0_8
 have HC0_8 := As_.mk hc0_8
 clear hr0_8 hc0_8
 have HR0_9 := As_.mk hr0_9
 have HC0_9 := As_.mk hc0_9
 clear hr0_9 hc0_9
 have HR0_10 := As_.mk hr0_10
 have HC0_10 := As_.mk hc0_10
 clear hr0_10 hc0_10
 have HR0_11 := As_.mk hr0_11
 have HC0_11 := As_.mk hc0_11
 clear hr0_11 hc0_11
 have HB := As_.mk (Below.refl w.heap.size w)
 have H : (w15_SchedUrges.l0 k 0 l0_0 a0_1 a0_2 a0_3 a0_4 a0_5 a0_6 l0_7 l0_8 l0_9 l0_10 l0_11) = some r := h
 clear h
 have H' := As_.mk H
 clear H
 go_enter Try.func12, Try.ntmps12
 go_wp2_with (first | ((with_reducible refine gate_dst (N := 1) rfl ?_); refine box_event ?hg (N := 1) ?hd (cs := #[.slice A0_0 l0_0.length c0_0, .int .i64 a0_1, .int .i64 a0_2, .int .i64 a0_3, .int .i64 a0_4, .int .i64 a0_5, .string a0_6, .slice A0_7 l0_7.length c0_7, .slice A0_8 l0_8.length c0_8, .slice A0_9 l0_9.length c0_9, .slice A0_10 l0_10.length c0_10, .slice A0_11 l0_11.length c0_11]) (t := 67) ?hr ?_; (case hd => rfl); (case hg => rfl); (case hr => first | (go_simp; done) | (go_simp; rfl)); intro gb771 hg w2 hbox hb; have n0_ := As_.mk (bT_ (by repeat (first | (with_reducible first | exact HB.out | apply bA_ | apply bN_ | apply b1_) | exact HB.out)) hb); have n1_ := As_.mk (hbox); have n2_ := As_.mk ((by rw [hg]; exact (bY_ (by repeat (first | (with_reducible first | exact HB.out | apply bA_ | apply bN_ | apply b1_) | exact HB.out))) : w.heap.size ≤ gb771)); have n3_ := As_.mk ((by rw [hg]; exact (bY_ (by repeat (first | (with_reducible first | exact HB.out | apply bA_ | apply bN_ | apply b1_) | exact HB.out))) : w.heap.size ≤ gb771)); clear HB; have HB := n0_; have BK771 := n1_; have GW771 := n2_; have GE771 := n3_; clear n0_ n1_ n2_ n3_; clear hb hbox hg))
 go_loopg [3] k (fun kq v3 w' => ∃ (x3_1 : Int), v3 = .int .i64 x3_1 ∧ As_ (w15_SchedUrges.l0 kq x3_1 l0_0 a0_1 a0_2 a0_3 a0_4 a0_5 a0_6 l0_7 l0_8 l0_9 l0_10 l0_11 = some r) ∧ As_ (kq ≤ k) ∧ As_ (w'.heap[gb771]? = some (.cells #[(.slice A0_0 l0_0.length c0_0), .int .i64 a0_1, .int .i64 a0_2, .int .i64 a0_3, .int .i64 a0_4, .int .i64 a0_5, .string a0_6, (.slice A0_7 l0_7.length c0_7), (.slice A0_8 l0_8.length c0_8), (.slice A0_9 l0_9.length c0_9), (.slice A0_10 l0_10.length c0_10), (.slice A0_11 l0_11.length c0_11)] 67 (0, 0))) ∧ As_ (Below w.heap.size w w'))
 case atStart => exact ⟨(0), (by first | rfl | (simp; done) | (simp [*]; done) | (simp [wrap64]; done) | (congr 1; rw [Bool.eq_iff_iff]; simp; done)), H', ⟨Nat.le_refl _⟩, ⟨by (with_reducible repeat (first | refine kN_ ?_ _ | refine kD_ ?_ | refine kA_ ?_ _)); exact BK771.out⟩, ⟨by repeat (first | (with_reducible first | exact HB.out | apply bA_ | apply bN_ | apply b1_ | refine bS_ ?_ GE771.out) | exact HB.out)⟩⟩
 case round =>
  clear H'
  obtain ⟨x3_1, rfl, HA, HK1, BK771, HB⟩ := hrel
  cases gk with
  | zero => exact absurd HA.out (by simp [w15_SchedUrges.l0])
  | succ k1 =>
   have H := HA.out
   clear HA
   simp only [w15_SchedUrges.l0] at H
   by_cases c3 : x3_1 < 12
   ·rw [if_pos c3] at H
    have c3b0 : decide (x3_1 < 12) = true := decide_eq_true c3
    clear c3
    obtain ⟨y773, hy773⟩ : ∃ y_ : List Int, y_ = (([14, 20, 1] : List Int)) := ⟨_, rfl⟩
    replace H : ((w15_row.f k1 24 3 y773).bind fun t776 => ((some (([(⟨16, 5, 1, 2, 0, (⟨#[]⟩ : ByteArray)⟩ : S24), (⟨27, 0, 3, 0, 0, (⟨#[]⟩ : ByteArray)⟩ : S24), (⟨25, 0, 4, 6, 0, (⟨#[]⟩ : ByteArray)⟩ : S24)] : List (S24)) : List (S24))).bind fun y779 => (if 0 ≤ (Int.tmod (wrap64 (x3_1 + (l0_11.length : Int))) 3) then (if (Int.tmod (wrap64 (x3_1 + (l0_11.length : Int))) 3) < (y779.length : Int) then (if 0 ≤ x3_1 then (if x3_1 < (t776.length : Int) then ((sched_Cycles.f k1 (t776.set (x3_1 : Int).toNat (⟨(q24 y779 (Int.tmod (wrap64 (x3_1 + (l0_11.length : Int))) 3)).f0, (q24 y779 (Int.tmod (wrap64 (x3_1 + (l0_11.length : Int))) 3)).f1, (q24 y779 (Int.tmod (wrap64 (x3_1 + (l0_11.length : Int))) 3)).f2, (q24 y779 (Int.tmod (wrap64 (x3_1 + (l0_11.length : Int))) 3)).f3, (q24 y779 (Int.tmod (wrap64 (x3_1 + (l0_11.length : Int))) 3)).f4, (q24 y779 (Int.tmod (wrap64 (x3_1 + (l0_11.length : Int))) 3)).f5⟩ : S24))).bind fun bt784 => ((w15_num.f bt784.2.2).bind fun t791 => (if t791 = 0 then (if (bt784.1.length : Int) = (t776.length : Int) then (if x3_1 < (bt784.1.length : Int) then (w15_SchedUrges.j1 k1 x3_1 (decide ((rd bt784.1 x3_1) > (wrap64 (4 * x3_1)))) l0_0 a0_1 a0_2 a0_3 a0_4 a0_5 a0_6 l0_7 l0_8 l0_9 l0_10 l0_11) else (none)) else (w15_SchedUrges.j1 k1 x3_1 true l0_0 a0_1 a0_2 a0_3 a0_4 a0_5 a0_6 l0_7 l0_8 l0_9 l0_10 l0_11)) else (w15_SchedUrges.j1 k1 x3_1 true l0_0 a0_1 a0_2 a0_3 a0_4 a0_5 a0_6 l0_7 l0_8 l0_9 l0_10 l0_11)))) else (none)) else (none)) else (none)) else (none)))) = some r := by first | (rw [hy773]; with_reducible exact H) | (have H2_ := (Option.bind_some _ _).symm.trans H; rw [hy773]; with_reducible exact H2_) | (have H2_ := (Option.bind_some _ _).symm.trans H; with_reducible exact H2_) | with_reducible exact H | (rw [hy773]; exact H) | exact H
    have Ny773 := As_.mk hy773
    clear hy773
    replace H := Option.bind_eq_some_iff.mp H
    obtain ⟨t776, A40, H⟩ := H
    replace H : ((some (([(⟨16, 5, 1, 2, 0, (⟨#[]⟩ : ByteArray)⟩ : S24), (⟨27, 0, 3, 0, 0, (⟨#[]⟩ : ByteArray)⟩ : S24), (⟨25, 0, 4, 6, 0, (⟨#[]⟩ : ByteArray)⟩ : S24)] : List (S24)) : List (S24))).bind fun y779 => (if 0 ≤ (Int.tmod (wrap64 (x3_1 + (l0_11.length : Int))) 3) then (if (Int.tmod (wrap64 (x3_1 + (l0_11.length : Int))) 3) < (y779.length : Int) then (if 0 ≤ x3_1 then (if x3_1 < (t776.length : Int) then ((sched_Cycles.f k1 (t776.set (x3_1 : Int).toNat (⟨(q24 y779 (Int.tmod (wrap64 (x3_1 + (l0_11.length : Int))) 3)).f0, (q24 y779 (Int.tmod (wrap64 (x3_1 + (l0_11.length : Int))) 3)).f1, (q24 y779 (Int.tmod (wrap64 (x3_1 + (l0_11.length : Int))) 3)).f2, (q24 y779 (Int.tmod (wrap64 (x3_1 + (l0_11.length : Int))) 3)).f3, (q24 y779 (Int.tmod (wrap64 (x3_1 + (l0_11.length : Int))) 3)).f4, (q24 y779 (Int.tmod (wrap64 (x3_1 + (l0_11.length : Int))) 3)).f5⟩ : S24))).bind fun bt784 => ((w15_num.f bt784.2.2).bind fun t791 => (if t791 = 0 then (if (bt784.1.length : Int) = (t776.length : Int) then (if x3_1 < (bt784.1.length : Int) then (w15_SchedUrges.j1 k1 x3_1 (decide ((rd bt784.1 x3_1) > (wrap64 (4 * x3_1)))) l0_0 a0_1 a0_2 a0_3 a0_4 a0_5 a0_6 l0_7 l0_8 l0_9 l0_10 l0_11) else (none)) else (w15_SchedUrges.j1 k1 x3_1 true l0_0 a0_1 a0_2 a0_3 a0_4 a0_5 a0_6 l0_7 l0_8 l0_9 l0_10 l0_11)) else (w15_SchedUrges.j1 k1 x3_1 true l0_0 a0_1 a0_2 a0_3 a0_4 a0_5 a0_6 l0_7 l0_8 l0_9 l0_10 l0_11)))) else (none)) else (none)) else (none)) else (none))) = some r := H
    have A4 := As_.mk A40
    clear A40
    obtain ⟨y779, hy779⟩ : ∃ y_ : List (S24), y_ = (([(⟨16, 5, 1, 2, 0, (⟨#[]⟩ : ByteArray)⟩ : S24), (⟨27, 0, 3, 0, 0, (⟨#[]⟩ : ByteArray)⟩ : S24), (⟨25, 0, 4, 6, 0, (⟨#[]⟩ : ByteArray)⟩ : S24)] : List (S24))) := ⟨_, rfl⟩
    replace H : (if 0 ≤ (Int.tmod (wrap64 (x3_1 + (l0_11.length : Int))) 3) then (if (Int.tmod (wrap64 (x3_1 + (l0_11.length : Int))) 3) < (y779.length : Int) then (if 0 ≤ x3_1 then (if x3_1 < (t776.length : Int) then ((sched_Cycles.f k1 (t776.set (x3_1 : Int).toNat (⟨(q24 y779 (Int.tmod (wrap64 (x3_1 + (l0_11.length : Int))) 3)).f0, (q24 y779 (Int.tmod (wrap64 (x3_1 + (l0_11.length : Int))) 3)).f1, (q24 y779 (Int.tmod (wrap64 (x3_1 + (l0_11.length : Int))) 3)).f2, (q24 y779 (Int.tmod (wrap64 (x3_1 + (l0_11.length : Int))) 3)).f3, (q24 y779 (Int.tmod (wrap64 (x3_1 + (l0_11.length : Int))) 3)).f4, (q24 y779 (Int.tmod (wrap64 (x3_1 + (l0_11.length : Int))) 3)).f5⟩ : S24))).bind fun bt784 => ((w15_num.f bt784.2.2).bind fun t791 => (if t791 = 0 then (if (bt784.1.length : Int) = (t776.length : Int) then (if x3_1 < (bt784.1.length : Int) then (w15_SchedUrges.j1 k1 x3_1 (decide ((rd bt784.1 x3_1) > (wrap64 (4 * x3_1)))) l0_0 a0_1 a0_2 a0_3 a0_4 a0_5 a0_6 l0_7 l0_8 l0_9 l0_10 l0_11) else (none)) else (w15_SchedUrges.j1 k1 x3_1 true l0_0 a0_1 a0_2 a0_3 a0_4 a0_5 a0_6 l0_7 l0_8 l0_9 l0_10 l0_11)) else (w15_SchedUrges.j1 k1 x3_1 true l0_0 a0_1 a0_2 a0_3 a0_4 a0_5 a0_6 l0_7 l0_8 l0_9 l0_10 l0_11)))) else (none)) else (none)) else (none)) else (none)) = some r := by first | (rw [hy779]; with_reducible exact H) | (have H2_ := (Option.bind_some _ _).symm.trans H; rw [hy779]; with_reducible exact H2_) | (have H2_ := (Option.bind_some _ _).symm.trans H; with_reducible exact H2_) | with_reducible exact H | (rw [hy779]; exact H) | exact H
    have Ny779 := As_.mk hy779
    clear hy779
    obtain ⟨ji5, hji5⟩ : ∃ j_ : Int, (Int.tmod (wrap64 (x3_1 + (l0_11.length : Int))) 3) = j_ := ⟨_, rfl⟩
    replace H : (if 0 ≤ (ji5) then (if (ji5) < (y779.length : Int) then (if 0 ≤ x3_1 then (if x3_1 < (t776.length : Int) then ((sched_Cycles.f k1 (t776.set (x3_1 : Int).toNat (⟨(q24 y779 (ji5)).f0, (q24 y779 (ji5)).f1, (q24 y779 (ji5)).f2, (q24 y779 (ji5)).f3, (q24 y779 (ji5)).f4, (q24 y779 (ji5)).f5⟩ : S24))).bind fun bt784 => ((w15_num.f bt784.2.2).bind fun t791 => (if t791 = 0 then (if (bt784.1.length : Int) = (t776.length : Int) then (if x3_1 < (bt784.1.length : Int) then (w15_SchedUrges.j1 k1 x3_1 (decide ((rd bt784.1 x3_1) > (wrap64 (4 * x3_1)))) l0_0 a0_1 a0_2 a0_3 a0_4 a0_5 a0_6 l0_7 l0_8 l0_9 l0_10 l0_11) else (none)) else (w15_SchedUrges.j1 k1 x3_1 true l0_0 a0_1 a0_2 a0_3 a0_4 a0_5 a0_6 l0_7 l0_8 l0_9 l0_10 l0_11)) else (w15_SchedUrges.j1 k1 x3_1 true l0_0 a0_1 a0_2 a0_3 a0_4 a0_5 a0_6 l0_7 l0_8 l0_9 l0_10 l0_11)))) else (none)) else (none)) else (none)) else (none)) = some r := by first | (rw [hji5] at H; exact H) | (simp only [hji5] at H ⊢; exact H)
    (try rw [hji5] at A4)
    by_cases c6 : 0 ≤ (ji5)
    ·rw [if_pos c6] at H
     have c6b0 : decide (0 ≤ (ji5)) = true := decide_eq_true c6
     clear c6
     by_cases c7 : (ji5) < (y779.length : Int)
     ·rw [if_pos c7] at H
      have c7b0 : decide ((ji5) < (y779.length : Int)) = true := decide_eq_true c7
      clear c7
      by_cases c8 : 0 ≤ x3_1
      ·rw [if_pos c8] at H
       have c8b0 : decide (0 ≤ x3_1) = true := decide_eq_true c8
       clear c8
       by_cases c9 : x3_1 < (t776.length : Int)
       ·rw [if_pos c9] at H
        have c9b0 : decide (x3_1 < (t776.length : Int)) = true := decide_eq_true c9
        clear c9
        obtain ⟨y783, hy783⟩ : ∃ y_ : List (S24), y_ = (t776.set (x3_1 : Int).toNat (⟨(q24 y779 (ji5)).f0, (q24 y779 (ji5)).f1, (q24 y779 (ji5)).f2, (q24 y779 (ji5)).f3, (q24 y779 (ji5)).f4, (q24 y779 (ji5)).f5⟩ : S24)) := ⟨_, rfl⟩
        replace H : ((sched_Cycles.f k1 y783).bind fun bt784 => ((w15_num.f bt784.2.2).bind fun t791 => (if t791 = 0 then (if (bt784.1.length : Int) = (t776.length : Int) then (if x3_1 < (bt784.1.length : Int) then (w15_SchedUrges.j1 k1 x3_1 (decide ((rd bt784.1 x3_1) > (wrap64 (4 * x3_1)))) l0_0 a0_1 a0_2 a0_3 a0_4 a0_5 a0_6 l0_7 l0_8 l0_9 l0_10 l0_11) else (none)) else (w15_SchedUrges.j1 k1 x3_1 true l0_0 a0_1 a0_2 a0_3 a0_4 a0_5 a0_6 l0_7 l0_8 l0_9 l0_10 l0_11)) else (w15_SchedUrges.j1 k1 x3_1 true l0_0 a0_1 a0_2 a0_3 a0_4 a0_5 a0_6 l0_7 l0_8 l0_9 l0_10 l0_11)))) = some r := by first | (rw [hy783]; with_reducible exact H) | (have H2_ := (Option.bind_some _ _).symm.trans H; rw [hy783]; with_reducible exact H2_) | (have H2_ := (Option.bind_some _ _).symm.trans H; with_reducible exact H2_) | with_reducible exact H | (rw [hy783]; exact H) | exact H
        have Ny783 := As_.mk hy783
        clear hy783
        replace H := Option.bind_eq_some_iff.mp H
        obtain ⟨⟨t784, t785, t786⟩, A110, H⟩ := H
        replace H : ((w15_num.f t786).bind fun t791 => (if t791 = 0 then (if (t784.length : Int) = (t776.length : Int) then (if x3_1 < (t784.length : Int) then (w15_SchedUrges.j1 k1 x3_1 (decide ((rd t784 x3_1) > (wrap64 (4 * x3_1)))) l0_0 a0_1 a0_2 a0_3 a0_4 a0_5 a0_6 l0_7 l0_8 l0_9 l0_10 l0_11) else (none)) else (w15_SchedUrges.j1 k1 x3_1 true l0_0 a0_1 a0_2 a0_3 a0_4 a0_5 a0_6 l0_7 l0_8 l0_9 l0_10 l0_11)) else (w15_SchedUrges.j1 k1 x3_1 true l0_0 a0_1 a0_2 a0_3 a0_4 a0_5 a0_6 l0_7 l0_8 l0_9 l0_10 l0_11))) = some r := H
        have A11 := As_.mk A110
        clear A110
        have HC12 := As_.mk H
        clear H
        go_upto_region 7 with (first | ((with_reducible refine gate_dst (N := 12) rfl ?_); refine Kd.R_lit (Kd.int .i64) _ 3 ?hg (N := 12) ?hd (xs := ([14, 20, 1] : List Int)) (inner := [.int .i64 14, .int .i64 20, .int .i64 1]) (ok := fun _ => True) (okp := fun _ => True) ?hr ?hp (fun _ hk => hk) trivial (Below.refl _ _) (Nat.le_refl _) (by simp) ?_; (case hd => rfl); (case hg => rfl); (case hr => first | (go_simp; done) | (go_simp; rfl)); (case hp => exact (Reps.one (show Kd.M (Kd.int .i64) _ _ _ 14 [.int .i64 14] from rfl) (Reps.one (show Kd.M (Kd.int .i64) _ _ _ 20 [.int .i64 20] from rfl) (Reps.one (show Kd.M (Kd.int .i64) _ _ _ 1 [.int .i64 1] from rfl) (Reps.none _ _))))); intro v774 w13 ho14 hb hg_ hnew_; clear hg_ hnew_; (first | rw [← Ny773.out] at ho14 | (simp only [Int.reduceToNat] at ho14; rw [← Ny773.out] at ho14)); have n0_ := As_.mk (Kd.R_lower ho14 (bY_ (by repeat (first | (with_reducible first | exact HB.out | apply bA_ | apply bN_ | apply b1_ | refine bS_ ?_ GE771.out) | exact HB.out)))); have n1_ := As_.mk (kB_ (g := gb771) (o := .cells #[.slice A0_0 l0_0.length c0_0, .int .i64 a0_1, .int .i64 a0_2, .int .i64 a0_3, .int .i64 a0_4, .int .i64 a0_5, .string a0_6, .slice A0_7 l0_7.length c0_7, .slice A0_8 l0_8.length c0_8, .slice A0_9 l0_9.length c0_9, .slice A0_10 l0_10.length c0_10, .slice A0_11 l0_11.length c0_11] 67 (0, 0)) (by (with_reducible repeat (first | refine kN_ ?_ _ | refine kD_ ?_ | refine kA_ ?_ _)); exact BK771.out) hb); have n2_ := As_.mk (bT_ (by repeat (first | (with_reducible first | exact HB.out | apply bA_ | apply bN_ | apply b1_ | refine bS_ ?_ GE771.out) | exact HB.out)) hb); clear BK771; clear HB; have HO775 := n0_; have BK771 := n1_; have HB := n2_; clear n0_ n1_ n2_; clear hb ho14; obtain ⟨Ao15, co15, eo15⟩ := Kd.R_slice HO775.out; subst eo15) | ((with_reducible refine gC_ (f := 45) rfl ?_); refine goesL_ (some 13) rfl rfl Try.func45 (by kernel_rfl) rfl #[.int .i64 24, .int .i64 3, .slice Ao15 y773.length co15] rfl (by (try simp only [List.map_toArray, List.map_cons, List.map_nil]); first | done | rfl) ?_; (with_reducible refine (w15_row.calls k1 24 3 _ _ y773 t776 _ ?side1 ?side2 A4.out).mono ?_); (case side1 => repeat (first | exact (Kd.R_reads' HO775.out).2.2 | (with_reducible refine Kd.C_alloc ?_ _) | (with_reducible refine Kd.C_drewN ?_ _) | (with_reducible refine Kd.C_drew ?_))); (case side2 => exact (Kd.R_reads' HO775.out).2.1); rintro e w16 ⟨v777, rfl, ho0, hb⟩; refine ⟨_, rfl, ?_⟩; have n0_ := As_.mk (Kd.R_below (by (with_reducible repeat (first | apply Kd.R_alloc | apply Kd.R_drewN | apply Kd.R_drew)); exact HO775.out) hb); have n1_ := As_.mk (Kd.R_lower ho0 (bY_ (by repeat (first | (with_reducible first | exact HB.out | apply bA_ | apply bN_ | apply b1_ | refine bS_ ?_ GE771.out) | exact HB.out)))); have n2_ := As_.mk (kB_ (g := gb771) (o := .cells #[.slice A0_0 l0_0.length c0_0, .int .i64 a0_1, .int .i64 a0_2, .int .i64 a0_3, .int .i64 a0_4, .int .i64 a0_5, .string a0_6, .slice A0_7 l0_7.length c0_7, .slice A0_8 l0_8.length c0_8, .slice A0_9 l0_9.length c0_9, .slice A0_10 l0_10.length c0_10, .slice A0_11 l0_11.length c0_11] 67 (0, 0)) (by (with_reducible repeat (first | refine kN_ ?_ _ | refine kD_ ?_ | refine kA_ ?_ _)); exact BK771.out) hb); have n3_ := As_.mk (bT_ (by repeat (first | (with_reducible first | exact HB.out | apply bA_ | apply bN_ | apply b1_ | refine bS_ ?_ GE771.out) | exact HB.out)) hb); clear HO775; clear BK771; clear HB; have HO775 := n0_; have HO778 := n1_; have BK771 := n2_; have HB := n3_; clear n0_ n1_ n2_ n3_; (try clear ho0)) | ((with_reducible refine gate_dst (N := 19) rfl ?_); refine Kd.R_lit k24 _ 24 ?hg (N := 19) ?hd (xs := ([(⟨16, 5, 1, 2, 0, (⟨#[]⟩ : ByteArray)⟩ : S24), (⟨27, 0, 3, 0, 0, (⟨#[]⟩ : ByteArray)⟩ : S24), (⟨25, 0, 4, 6, 0, (⟨#[]⟩ : ByteArray)⟩ : S24)] : List (S24))) (inner := [.int .i64 16, .int .i64 5, .int .i64 1, .int .i64 2, .int .i64 0, .string (⟨#[]⟩ : ByteArray), .int .i64 27, .int .i64 0, .int .i64 3, .int .i64 0, .int .i64 0, .string (⟨#[]⟩ : ByteArray), .int .i64 25, .int .i64 0, .int .i64 4, .int .i64 6, .int .i64 0, .string (⟨#[]⟩ : ByteArray)]) (ok := fun _ => True) (okp := fun _ => True) ?hr ?hp (fun _ hk => hk) trivial (Below.refl _ _) (Nat.le_refl _) (by simp) ?_; (case hd => rfl); (case hg => rfl); (case hr => first | (go_simp; done) | (go_simp; rfl)); (case hp => exact (Reps.c6 (show Kd.M k24 _ _ _ (⟨16, 5, 1, 2, 0, (⟨#[]⟩ : ByteArray)⟩ : S24) [.int .i64 16, .int .i64 5, .int .i64 1, .int .i64 2, .int .i64 0, .string (⟨#[]⟩ : ByteArray)] from (k24_mkM _ _ _ (⟨16, 5, 1, 2, 0, (⟨#[]⟩ : ByteArray)⟩ : S24) )) (Reps.c6 (show Kd.M k24 _ _ _ (⟨27, 0, 3, 0, 0, (⟨#[]⟩ : ByteArray)⟩ : S24) [.int .i64 27, .int .i64 0, .int .i64 3, .int .i64 0, .int .i64 0, .string (⟨#[]⟩ : ByteArray)] from (k24_mkM _ _ _ (⟨27, 0, 3, 0, 0, (⟨#[]⟩ : ByteArray)⟩ : S24) )) (Reps.c6 (show Kd.M k24 _ _ _ (⟨25, 0, 4, 6, 0, (⟨#[]⟩ : ByteArray)⟩ : S24) [.int .i64 25, .int .i64 0, .int .i64 4, .int .i64 6, .int .i64 0, .string (⟨#[]⟩ : ByteArray)] from (k24_mkM _ _ _ (⟨25, 0, 4, 6, 0, (⟨#[]⟩ : ByteArray)⟩ : S24) )) (Reps.none _ _))))); intro v780 w17 ho18 hb hg_ hnew_; clear hg_ hnew_; (first | rw [← Ny779.out] at ho18 | (simp only [Int.reduceToNat] at ho18; rw [← Ny779.out] at ho18)); have n0_ := As_.mk (Kd.R_below (by (with_reducible repeat (first | apply Kd.R_alloc | apply Kd.R_drewN | apply Kd.R_drew)); exact HO775.out) hb); have n1_ := As_.mk (Kd.R_elder' (by (with_reducible repeat (first | apply Kd.R_alloc | apply Kd.R_drewN | apply Kd.R_drew)); exact HO778.out) (Kd.R_base ho18) hb); have n2_ := As_.mk (Kd.R_lower (Kd.R_new' ho18 (Kd.R_lt (by (with_reducible repeat (first | apply Kd.R_alloc | apply Kd.R_drewN | apply Kd.R_drew)); exact HO778.out))) (bY_ (by repeat (first | (with_reducible first | exact HB.out | apply bA_ | apply bN_ | apply b1_ | refine bS_ ?_ GE771.out) | exact HB.out)))); have n3_ := As_.mk (kB_ (g := gb771) (o := .cells #[.slice A0_0 l0_0.length c0_0, .int .i64 a0_1, .int .i64 a0_2, .int .i64 a0_3, .int .i64 a0_4, .int .i64 a0_5, .string a0_6, .slice A0_7 l0_7.length c0_7, .slice A0_8 l0_8.length c0_8, .slice A0_9 l0_9.length c0_9, .slice A0_10 l0_10.length c0_10, .slice A0_11 l0_11.length c0_11] 67 (0, 0)) (by (with_reducible repeat (first | refine kN_ ?_ _ | refine kD_ ?_ | refine kA_ ?_ _)); exact BK771.out) hb); have n4_ := As_.mk (bT_ (by repeat (first | (with_reducible first | exact HB.out | apply bA_ | apply bN_ | apply b1_ | refine bS_ ?_ GE771.out) | exact HB.out)) hb); clear HO775; clear HO778; clear BK771; clear HB; have HO775 := n0_; have HO778 := n1_; have HO781 := n2_; have BK771 := n3_; have HB := n4_; clear n0_ n1_ n2_ n3_ n4_; clear hb ho18; have hcz19_0 : w17.cell? ⟨gb771, 0, none⟩ = some (.slice A0_0 l0_0.length c0_0) := (bC_ BK771.out 0).trans rfl; have hcz19_1 : w17.cell? ⟨gb771, 1, none⟩ = some (.int .i64 a0_1) := (bC_ BK771.out 1).trans rfl; have hcz19_2 : w17.cell? ⟨gb771, 2, none⟩ = some (.int .i64 a0_2) := (bC_ BK771.out 2).trans rfl; have hcz19_3 : w17.cell? ⟨gb771, 3, none⟩ = some (.int .i64 a0_3) := (bC_ BK771.out 3).trans rfl; have hcz19_4 : w17.cell? ⟨gb771, 4, none⟩ = some (.int .i64 a0_4) := (bC_ BK771.out 4).trans rfl; have hcz19_5 : w17.cell? ⟨gb771, 5, none⟩ = some (.int .i64 a0_5) := (bC_ BK771.out 5).trans rfl; have hcz19_6 : w17.cell? ⟨gb771, 6, none⟩ = some (.string a0_6) := (bC_ BK771.out 6).trans rfl; have hcz19_7 : w17.cell? ⟨gb771, 7, none⟩ = some (.slice A0_7 l0_7.length c0_7) := (bC_ BK771.out 7).trans rfl; have hcz19_8 : w17.cell? ⟨gb771, 8, none⟩ = some (.slice A0_8 l0_8.length c0_8) := (bC_ BK771.out 8).trans rfl; have hcz19_9 : w17.cell? ⟨gb771, 9, none⟩ = some (.slice A0_9 l0_9.length c0_9) := (bC_ BK771.out 9).trans rfl; have hcz19_10 : w17.cell? ⟨gb771, 10, none⟩ = some (.slice A0_10 l0_10.length c0_10) := (bC_ BK771.out 10).trans rfl; have hcz19_11 : w17.cell? ⟨gb771, 11, none⟩ = some (.slice A0_11 l0_11.length c0_11) := (bC_ BK771.out 11).trans rfl; have hfz19_0 := bZ_ BK771.out 0; have hfz19_1 := bZ_ BK771.out 1; have hfz19_2 := bZ_ BK771.out 2; have hfz19_3 := bZ_ BK771.out 3; have hfz19_4 := bZ_ BK771.out 4; have hfz19_5 := bZ_ BK771.out 5; have hfz19_6 := bZ_ BK771.out 6; have hfz19_7 := bZ_ BK771.out 7; have hfz19_8 := bZ_ BK771.out 8; have hfz19_9 := bZ_ BK771.out 9; have hfz19_10 := bZ_ BK771.out 10; have hfz19_11 := bZ_ BK771.out 11; obtain ⟨Ao20, co20, eo20⟩ := Kd.R_slice HO781.out; subst eo20; have p782 : 0 ≤ ((ji5) : Int) := of_decide_eq_true (by assumption); have q782 : (ji5) < (y779.length : Int) := of_decide_eq_true (by assumption); obtain ⟨ad782, e782, hx782_0, hx782_1, hx782_2, hx782_3, hx782_4, hx782_5⟩ := at_T24 (Kd.R_reads' HO781.out).2.2 (ji5) p782 q782; cases e782; replace p782 := eq_true p782; replace q782 := eq_true q782; have p10 : 0 ≤ (x3_1 : Int) := of_decide_eq_true (by assumption); have q10 : (x3_1 : Int) < ((t776.length : Int) : Int) := of_decide_eq_true (by assumption); obtain ⟨go10, co10, eo10, gb10, gl10, cl10, HG10⟩ := Kd.R_form HO778.out (by omega); (first | cases eo10 | (injection eo10 with ea_ en_ ec_; (first | subst ea_ | (injection ea_ with ea_; subst ea_)); subst ec_; clear en_)); have GB10 := As_.mk gb10; have GG10 := As_.mk HG10; clear gb10 gl10 HG10; obtain ⟨ce10, hcl10, hM10, hcc10, hfr10⟩ := Kd.R_elem HO778.out z24 (x3_1 : Int) p10 q10; obtain rfl := k24_openM hM10; have hx10_0 : w17.cell? ⟨go10, (x3_1 : Int).toNat * 6, none⟩ = some (.int .i64 ((q24 t776 x3_1).f0)) := hcc10 0 _ rfl; have hx10_1 : w17.cell? ⟨go10, (x3_1 : Int).toNat * 6 + 1, none⟩ = some (.int .i64 ((q24 t776 x3_1).f1)) := hcc10 1 _ rfl; have hx10_2 : w17.cell? ⟨go10, (x3_1 : Int).toNat * 6 + 2, none⟩ = some (.int .i64 ((q24 t776 x3_1).f2)) := hcc10 2 _ rfl; have hx10_3 : w17.cell? ⟨go10, (x3_1 : Int).toNat * 6 + 3, none⟩ = some (.int .i64 ((q24 t776 x3_1).f3)) := hcc10 3 _ rfl; have hx10_4 : w17.cell? ⟨go10, (x3_1 : Int).toNat * 6 + 4, none⟩ = some (.int .i64 ((q24 t776 x3_1).f4)) := hcc10 4 _ rfl; have hx10_5 : w17.cell? ⟨go10, (x3_1 : Int).toNat * 6 + 5, none⟩ = some (.string ((q24 t776 x3_1).f5)) := hcc10 5 _ rfl; have hf10_0 : w17.frozen? ⟨go10, (x3_1 : Int).toNat * 6, none⟩ = false := hfr10 0; have hf10_1 : w17.frozen? ⟨go10, (x3_1 : Int).toNat * 6 + 1, none⟩ = false := hfr10 1; have hf10_2 : w17.frozen? ⟨go10, (x3_1 : Int).toNat * 6 + 2, none⟩ = false := hfr10 2; have hf10_3 : w17.frozen? ⟨go10, (x3_1 : Int).toNat * 6 + 3, none⟩ = false := hfr10 3; have hf10_4 : w17.frozen? ⟨go10, (x3_1 : Int).toNat * 6 + 4, none⟩ = false := hfr10 4; have hf10_5 : w17.frozen? ⟨go10, (x3_1 : Int).toNat * 6 + 5, none⟩ = false := hfr10 5; clear hcl10 hcc10 hfr10 hM10; replace p10 := eq_true p10; replace q10 := eq_true q10; have n_ := As_.mk (Kd.R_mono (ok' := (fun k_ => some k_ ≠ (.slice (some ad782) y779.length co20 : Value).ownBlock)) HO778.out (fun k_ hk => hk.2)); clear HO778; have HO778 := n_; clear n_; have HX21 := As_.mk (show Kd.R k24 24 w17 w.heap.size (fun k_ => some k_ ≠ (.slice (some ad782) y779.length co20 : Value).ownBlock) (.slice (some ⟨go10, 0, none⟩) t776.length co10) t776 from (by (with_reducible repeat (first | apply Kd.R_alloc | apply Kd.R_drewN | apply Kd.R_drew)); exact HO778.out)); obtain ⟨ce21, hcl21, hM21, hcc21, hfr21⟩ := Kd.R_elem HX21.out z24 (x3_1 : Int) (of_decide_eq_true (by assumption)) (by have h_ : (x3_1 : Int) < ((t776.length : Int) : Int) := of_decide_eq_true (by assumption); first | exact h_ | (have e_ := (Kd.R_reads' HO778.out).1; omega) | simpa using h_); obtain rfl := k24_openM hM21; have HP21 := Kd.R_seg HX21.out (x3_1 : Int) (of_decide_eq_true (by assumption)) (by have h_ : (x3_1 : Int) < ((t776.length : Int) : Int) := of_decide_eq_true (by assumption); first | exact h_ | (have e_ := (Kd.R_reads' HO778.out).1; omega) | simpa using h_) (seg := [.int .i64 ((q24 y779 (ji5)).f0), .int .i64 ((q24 y779 (ji5)).f1), .int .i64 ((q24 y779 (ji5)).f2), .int .i64 ((q24 y779 (ji5)).f3), .int .i64 ((q24 y779 (ji5)).f4), .string ((q24 y779 (ji5)).f5)]) (j := 0) hcl21 hcc21 (show 6 ≤ 6 from by decide) (x' := (⟨(q24 y779 (ji5)).f0, (q24 y779 (ji5)).f1, (q24 y779 (ji5)).f2, (q24 y779 (ji5)).f3, (q24 y779 (ji5)).f4, (q24 y779 (ji5)).f5⟩ : S24)) (k24_mkM _ _ _ (⟨(q24 y779 (ji5)).f0, (q24 y779 (ji5)).f1, (q24 y779 (ji5)).f2, (q24 y779 (ji5)).f3, (q24 y779 (ji5)).f4, (q24 y779 (ji5)).f5⟩ : S24) ) (fun _ hk => hk); have hx21_0 := hcc21 0 _ rfl; (try simp only [show (k24).sz = 6 from rfl, Nat.mul_one, Nat.add_zero] at hx21_0); have hf21_0 := hfr21 0; (try simp only [show (k24).sz = 6 from rfl, Nat.mul_one, Nat.add_zero] at hf21_0); have hx21_1 := hcc21 1 _ rfl; (try simp only [show (k24).sz = 6 from rfl, Nat.mul_one, Nat.add_zero] at hx21_1); have hf21_1 := hfr21 1; (try simp only [show (k24).sz = 6 from rfl, Nat.mul_one, Nat.add_zero] at hf21_1); have hx21_2 := hcc21 2 _ rfl; (try simp only [show (k24).sz = 6 from rfl, Nat.mul_one, Nat.add_zero] at hx21_2); have hf21_2 := hfr21 2; (try simp only [show (k24).sz = 6 from rfl, Nat.mul_one, Nat.add_zero] at hf21_2); have hx21_3 := hcc21 3 _ rfl; (try simp only [show (k24).sz = 6 from rfl, Nat.mul_one, Nat.add_zero] at hx21_3); have hf21_3 := hfr21 3; (try simp only [show (k24).sz = 6 from rfl, Nat.mul_one, Nat.add_zero] at hf21_3); have hx21_4 := hcc21 4 _ rfl; (try simp only [show (k24).sz = 6 from rfl, Nat.mul_one, Nat.add_zero] at hx21_4); have hf21_4 := hfr21 4; (try simp only [show (k24).sz = 6 from rfl, Nat.mul_one, Nat.add_zero] at hf21_4); have hx21_5 := hcc21 5 _ rfl; (try simp only [show (k24).sz = 6 from rfl, Nat.mul_one, Nat.add_zero] at hx21_5); have hf21_5 := hfr21 5; (try simp only [show (k24).sz = 6 from rfl, Nat.mul_one, Nat.add_zero] at hf21_5); clear hcl21 hcc21 hfr21 hM21) | ((with_reducible refine gate_store (t := 24) (p := 28) rfl ?_); refine store_event (t := 24) (p := 28) (v := ?vo_w22) (w1 := ((((((w17.setCell ⟨go10, (x3_1 : Int).toNat * 6, none⟩ (.int .i64 ((q24 y779 (ji5)).f0))).setCell ⟨go10, (x3_1 : Int).toNat * 6 + 1, none⟩ (.int .i64 ((q24 y779 (ji5)).f1))).setCell ⟨go10, (x3_1 : Int).toNat * 6 + 2, none⟩ (.int .i64 ((q24 y779 (ji5)).f2))).setCell ⟨go10, (x3_1 : Int).toNat * 6 + 3, none⟩ (.int .i64 ((q24 y779 (ji5)).f3))).setCell ⟨go10, (x3_1 : Int).toNat * 6 + 4, none⟩ (.int .i64 ((q24 y779 (ji5)).f4))).setCell ⟨go10, (x3_1 : Int).toNat * 6 + 5, none⟩ (.string ((q24 y779 (ji5)).f5)))) ?hg ?ho ?hn ?hr ?_; (case ho => rfl); (case hg => rfl); (case hn => rfl); (case hr => first | (go_simp; done) | (go_simp; rfl)); intro w22 hw; have hg : w17.grownBy w22 (some go10) := (by rw [hw]; exact HP21.2); have hp_ : Kd.R k24 24 w22 w.heap.size (fun k_ => some k_ ≠ (.slice (some ad782) y779.length co20 : Value).ownBlock) (.slice (some ⟨go10, 0, none⟩) t776.length co10) y783 := (by rw [hw, Ny783.out]; exact HP21.1); clear HP21; have n0_ := As_.mk (blk_grown (g := gb771) (o := .cells #[.slice A0_0 l0_0.length c0_0, .int .i64 a0_1, .int .i64 a0_2, .int .i64 a0_3, .int .i64 a0_4, .int .i64 a0_5, .string a0_6, .slice A0_7 l0_7.length c0_7, .slice A0_8 l0_8.length c0_8, .slice A0_9 l0_9.length c0_9, .slice A0_10 l0_10.length c0_10, .slice A0_11 l0_11.length c0_11] 67 (0, 0)) (by (with_reducible repeat (first | refine kN_ ?_ _ | refine kD_ ?_ | refine kA_ ?_ _)); exact BK771.out) hg (Kd.R_ne HO778.out BK771.out (by decide))); have n1_ := As_.mk (Kd.R_over' (v := (.slice (some ⟨go10, 0, none⟩) t776.length co10)) (by (with_reducible repeat (first | apply Kd.R_alloc | apply Kd.R_drewN | apply Kd.R_drew)); exact HO775.out) (Kd.R_typed HO778.out) (by decide) hg); have n2_ := As_.mk (hp_); have n3_ := As_.mk (Kd.R_after (v := (.slice (some ⟨go10, 0, none⟩) t776.length co10)) (v1 := (.slice (some ⟨go10, 0, none⟩) t776.length co10)) (ok := (fun _ => True)) (by (with_reducible repeat (first | apply Kd.R_alloc | apply Kd.R_drewN | apply Kd.R_drew)); exact HO781.out) hg (.inl rfl)); have n4_ := As_.mk ((by rw [hw]; exact bS_ (bS_ (bS_ (bS_ (bS_ (bS_ (HB.out) GB10.out) GB10.out) GB10.out) GB10.out) GB10.out) GB10.out : Below w.heap.size w w22)); clear BK771; clear HO775; clear HO778; clear HO781; clear HB; have BK771 := n0_; have HO775 := n1_; have HO778 := n2_; have HO781 := n3_; have HB := n4_; clear n0_ n1_ n2_ n3_ n4_; clear hg hw hp_) | ((with_reducible refine gC_ (f := 47) rfl ?_); refine goesL_ (some 31) rfl rfl Try.func47 (by kernel_rfl) rfl #[.slice (some ⟨go10, 0, none⟩) y783.length co10] rfl (by (try simp only [List.map_toArray, List.map_cons, List.map_nil]); first | done | (rw [show y783.length = t776.length from (Kd.R_reads' HO778.out).1.symm] <;> rfl) | rfl | (simp only [List.length_drop, List.length_take]; rfl)) ?_; (with_reducible refine (sched_Cycles.calls k1 _ _ y783 t784 t785 t786 _ ?side1 ?side2 A11.out).mono ?_); (case side1 => repeat (first | exact (Kd.R_reads' HO778.out).2.2 | (with_reducible refine Kd.C_alloc ?_ _) | (with_reducible refine Kd.C_drewN ?_ _) | (with_reducible refine Kd.C_drew ?_))); (case side2 => rw [show y783.length = t776.length from (Kd.R_reads' HO778.out).1.symm]; exact (Kd.R_reads' HO778.out).2.1); rintro e w23 ⟨v787, v789, rfl, ho0, ho1, hb⟩; refine ⟨_, rfl, ?_⟩; have n0_ := As_.mk (Kd.R_mono (Kd.R_told (Kd.R_told (Kd.R_old (by (with_reducible repeat (first | apply Kd.R_alloc | apply Kd.R_drewN | apply Kd.R_drew)); exact HO775.out) hb) (Kd.R_base ho0)) (Kd.R_base ho1)) (fun _ h_ => h_.1)); have n1_ := As_.mk (Kd.R_below (by (with_reducible repeat (first | apply Kd.R_alloc | apply Kd.R_drewN | apply Kd.R_drew)); exact HO778.out) hb); have n2_ := As_.mk (Kd.R_below (by (with_reducible repeat (first | apply Kd.R_alloc | apply Kd.R_drewN | apply Kd.R_drew)); exact HO781.out) hb); have n3_ := As_.mk (Kd.R_lower (Kd.R_new' ho0 (Kd.R_lt (by (with_reducible repeat (first | apply Kd.R_alloc | apply Kd.R_drewN | apply Kd.R_drew)); exact HO775.out))) (bY_ (by repeat (first | (with_reducible first | exact HB.out | apply bA_ | apply bN_ | apply b1_ | refine bS_ ?_ GE771.out) | exact HB.out)))); have n4_ := As_.mk (Kd.R_lower (Kd.R_new' ho1 (Kd.R_lt (by (with_reducible repeat (first | apply Kd.R_alloc | apply Kd.R_drewN | apply Kd.R_drew)); exact HO775.out))) (bY_ (by repeat (first | (with_reducible first | exact HB.out | apply bA_ | apply bN_ | apply b1_ | refine bS_ ?_ GE771.out) | exact HB.out)))); have n5_ := As_.mk (kB_ (g := gb771) (o := .cells #[.slice A0_0 l0_0.length c0_0, .int .i64 a0_1, .int .i64 a0_2, .int .i64 a0_3, .int .i64 a0_4, .int .i64 a0_5, .string a0_6, .slice A0_7 l0_7.length c0_7, .slice A0_8 l0_8.length c0_8, .slice A0_9 l0_9.length c0_9, .slice A0_10 l0_10.length c0_10, .slice A0_11 l0_11.length c0_11] 67 (0, 0)) (by (with_reducible repeat (first | refine kN_ ?_ _ | refine kD_ ?_ | refine kA_ ?_ _)); exact BK771.out) hb); have n6_ := As_.mk (bT_ (by repeat (first | (with_reducible first | exact HB.out | apply bA_ | apply bN_ | apply b1_ | refine bS_ ?_ GE771.out) | exact HB.out)) hb); clear HO775; clear HO778; clear HO781; clear BK771; clear HB; have HO775 := n0_; have HO778 := n1_; have HO781 := n2_; have HO788 := n3_; have HO790 := n4_; have BK771 := n5_; have HB := n6_; clear n0_ n1_ n2_ n3_ n4_ n5_ n6_; (try clear ho0); (try clear ho1)))
        (try simp only [Act.put, List.setIfInBounds_toArray, List.set_cons_zero, List.set_cons_succ])
        go_cut [53] (fun v53 wc => ∃ (kq : Nat) (x53_11 : Bool), v53 = .bool x53_11 ∧ As_ (w15_SchedUrges.j1 kq x3_1 x53_11 l0_0 a0_1 a0_2 a0_3 a0_4 a0_5 a0_6 l0_7 l0_8 l0_9 l0_10 l0_11 = some r) ∧ As_ (kq ≤ k1) ∧ As_ (wc.heap[gb771]? = some (.cells #[(.slice A0_0 l0_0.length c0_0), .int .i64 a0_1, .int .i64 a0_2, .int .i64 a0_3, .int .i64 a0_4, .int .i64 a0_5, .string a0_6, (.slice A0_7 l0_7.length c0_7), (.slice A0_8 l0_8.length c0_8), (.slice A0_9 l0_9.length c0_9), (.slice A0_10 l0_10.length c0_10), (.slice A0_11 l0_11.length c0_11)] 67 (0, 0))) ∧ As_ (Below w.heap.size w wc))
        case first =>
         have H := HC12.out
         clear HC12
         replace H := Option.bind_eq_some_iff.mp H
         obtain ⟨t791, A240, H⟩ := H
         replace H : (if t791 = 0 then (if (t784.length : Int) = (t776.length : Int) then (if x3_1 < (t784.length : Int) then (w15_SchedUrges.j1 k1 x3_1 (decide ((rd t784 x3_1) > (wrap64 (4 * x3_1)))) l0_0 a0_1 a0_2 a0_3 a0_4 a0_5 a0_6 l0_7 l0_8 l0_9 l0_10 l0_11) else (none)) else (w15_SchedUrges.j1 k1 x3_1 true l0_0 a0_1 a0_2 a0_3 a0_4 a0_5 a0_6 l0_7 l0_8 l0_9 l0_10 l0_11)) else (w15_SchedUrges.j1 k1 x3_1 true l0_0 a0_1 a0_2 a0_3 a0_4 a0_5 a0_6 l0_7 l0_8 l0_9 l0_10 l0_11)) = some r := H
         have A24 := As_.mk A240
         clear A240
         by_cases c25 : t791 = 0
         ·rw [if_pos c25] at H
          have c25b0 : (t791 == 0) = true := beq_iff_eq.mpr c25
          have c25b1 : (t791 != 0) = false := bne_eq_false_iff_eq.mpr c25
          clear c25
          (first | rw [c25b0] | (simp only [i64_w, i32_w]; rw [c25b0]) | skip)
          by_cases c26 : (t784.length : Int) = (t776.length : Int)
          ·rw [if_pos c26] at H
           have c26b0 : ((t784.length : Int) == (t776.length : Int)) = true := beq_iff_eq.mpr c26
           have c26b1 : ((t784.length : Int) != (t776.length : Int)) = false := bne_eq_false_iff_eq.mpr c26
           have c26b2 : (t784.length == t776.length) = true := by first | simpa using c26 | (simp at c26 ⊢; omega)
           clear c26
           by_cases c27 : x3_1 < (t784.length : Int)
           ·rw [if_pos c27] at H
            have c27b0 : decide (x3_1 < (t784.length : Int)) = true := decide_eq_true c27
            clear c27
            have H' := As_.mk H
            clear H
            go_wp2_with (first | ((with_reducible refine gC_ (f := 48) rfl ?_); refine goesL_ (some 36) rfl rfl Try.func48 (by kernel_rfl) rfl #[.int .i64 t786] rfl (by (try simp only [List.map_toArray, List.map_cons, List.map_nil]); first | done | rfl) ?_; (with_reducible refine (w15_num.calls t786 t791 _ A24.out).mono ?_); rintro e w' ⟨rfl, ⟨nd, rfl⟩⟩; refine ⟨_, rfl, ?_⟩; obtain ⟨Ao28, co28, eo28⟩ := Kd.R_slice HO788.out; subst eo28; have p792 : 0 ≤ (x3_1 : Int) := of_decide_eq_true (by assumption); have q792 : x3_1 < (t784.length : Int) := of_decide_eq_true (by assumption); obtain ⟨ad792, e792, hx792_0⟩ := Kd.at_int (Kd.R_reads' HO788.out).2.2 x3_1 p792 q792; cases e792; replace p792 := eq_true p792; replace q792 := eq_true q792))
            go_meet
            case rel => exact ⟨_, (decide ((rd t784 x3_1) > (wrap64 (4 * x3_1)))), (by first | rfl | (simp; done) | (simp [*]; done) | (simp [wrap64]; done) | (congr 1; rw [Bool.eq_iff_iff]; simp; done)), H', ⟨by have := HK1.out; first | omega | exact Nat.le_refl _⟩, ⟨by (with_reducible repeat (first | refine kN_ ?_ _ | refine kD_ ?_ | refine kA_ ?_ _)); exact BK771.out⟩, ⟨by repeat (first | (with_reducible first | exact HB.out | apply bA_ | apply bN_ | apply b1_ | refine bS_ ?_ GE771.out) | exact HB.out)⟩⟩
           rw [if_neg c27] at H
           exact absurd H (by simp)
          rw [if_neg c26] at H
          have c26b0 : ((t784.length : Int) == (t776.length : Int)) = false := beq_eq_false_iff_ne.mpr c26
          have c26b1 : ((t784.length : Int) != (t776.length : Int)) = true := bne_iff_ne.mpr c26
          have c26b2 : (t784.length == t776.length) = false := by first | simpa using c26 | (simp at c26 ⊢; omega)
          have H' := As_.mk H
          clear H
          go_wp2_with (first | ((with_reducible refine gC_ (f := 48) rfl ?_); refine goesL_ (some 36) rfl rfl Try.func48 (by kernel_rfl) rfl #[.int .i64 t786] rfl (by (try simp only [List.map_toArray, List.map_cons, List.map_nil]); first | done | rfl) ?_; (with_reducible refine (w15_num.calls t786 t791 _ A24.out).mono ?_); rintro e w' ⟨rfl, ⟨nd, rfl⟩⟩; refine ⟨_, rfl, ?_⟩; obtain ⟨Ao29, co29, eo29⟩ := Kd.R_slice HO788.out; subst eo29))
          go_meet
          case rel => exact ⟨_, (true), (by first | rfl | (simp; done) | (simp [*]; done) | (simp [wrap64]; done) | (congr 1; rw [Bool.eq_iff_iff]; simp; done)), H', ⟨by have := HK1.out; first | omega | exact Nat.le_refl _⟩, ⟨by (with_reducible repeat (first | refine kN_ ?_ _ | refine kD_ ?_ | refine kA_ ?_ _)); exact BK771.out⟩, ⟨by repeat (first | (with_reducible first | exact HB.out | apply bA_ | apply bN_ | apply b1_ | refine bS_ ?_ GE771.out) | exact HB.out)⟩⟩
         rw [if_neg c25] at H
         have c25b0 : (t791 == 0) = false := beq_eq_false_iff_ne.mpr c25
         have c25b1 : (t791 != 0) = true := bne_iff_ne.mpr c25
         (first | rw [c25b0] | (simp only [i64_w, i32_w]; rw [c25b0]) | skip)
         have H' := As_.mk H
         clear H
         go_wp2_with (first | ((with_reducible refine gC_ (f := 48) rfl ?_); refine goesL_ (some 36) rfl rfl Try.func48 (by kernel_rfl) rfl #[.int .i64 t786] rfl (by (try simp only [List.map_toArray, List.map_cons, List.map_nil]); first | done | rfl) ?_; (with_reducible refine (w15_num.calls t786 t791 _ A24.out).mono ?_); rintro e w' ⟨rfl, ⟨nd, rfl⟩⟩; refine ⟨_, rfl, ?_⟩))
         go_meet
         case rel => exact ⟨_, (true), (by first | rfl | (simp; done) | (simp [*]; done) | (simp [wrap64]; done) | (congr 1; rw [Bool.eq_iff_iff]; simp; done)), H', ⟨by have := HK1.out; first | omega | exact Nat.le_refl _⟩, ⟨by (with_reducible repeat (first | refine kN_ ?_ _ | refine kD_ ?_ | refine kA_ ?_ _)); exact BK771.out⟩, ⟨by repeat (first | (with_reducible first | exact HB.out | apply bA_ | apply bN_ | apply b1_ | refine bS_ ?_ GE771.out) | exact HB.out)⟩⟩
        case rest =>
         clear HC12
         obtain ⟨kq, x53_11, rfl, HA, HJ11, BK771, HB⟩ := hcut
         cases kq with
         | zero => exact absurd HA.out (by simp [w15_SchedUrges.j1])
         | succ kj11 =>
          have H := HA.out
          clear HA
          simp only [w15_SchedUrges.j1] at H
          by_cases c30 : x53_11 = true
          ·subst c30
           have H1 : (some false) = some r := by rw [if_pos rfl] at H; exact H
           clear H
           have H := H1
           clear H1
           obtain rfl := Option.some.inj H
           go_wp2
           go_ret
           exact ⟨by first | rfl | (simp [eN_, eS_] <;> rfl) | (simp only [← hji5]; first | rfl | (simp [eN_, eS_] <;> rfl)) | (simp [*, eN_, eS_] <;> rfl), by repeat (first | (with_reducible first | exact HB.out | apply bA_ | apply bN_ | apply b1_ | refine bS_ ?_ GE771.out) | exact HB.out)⟩
          replace c30 := Bool.eq_false_iff.mpr c30
          subst c30
          have H1 : (w15_SchedUrges.l0 kj11 (wrap64 (x3_1 + 1)) l0_0 a0_1 a0_2 a0_3 a0_4 a0_5 a0_6 l0_7 l0_8 l0_9 l0_10 l0_11) = some r := by rw [if_neg (show ¬ (false = true) by decide)] at H; exact H
          clear H
          have H := H1
          clear H1
          have H' := As_.mk H
          clear H
          go_wp2
          go_roundg kj11
          case measure => have := HK1.out; have := HJ11.out; omega
          case rel => exact ⟨(wrap64 (x3_1 + 1)), (by first | rfl | (simp; done) | (simp [*]; done) | (simp [wrap64]; done) | (congr 1; rw [Bool.eq_iff_iff]; simp; done)), H', ⟨by have := HK1.out; have := HJ11.out; omega⟩, ⟨by (with_reducible repeat (first | refine kN_ ?_ _ | refine kD_ ?_ | refine kA_ ?_ _)); exact BK771.out⟩, ⟨by repeat (first | (with_reducible first | exact HB.out | apply bA_ | apply bN_ | apply b1_ | refine bS_ ?_ GE771.out) | exact HB.out)⟩⟩
       rw [if_neg c9] at H
       exact absurd H (by simp)
      rw [if_neg c8] at H
      exact absurd H (by simp)
     rw [if_neg c7] at H
     exact absurd H (by simp)
    rw [if_neg c6] at H
    exact absurd H (by simp)
   rw [if_neg c3] at H
   have c3b0 : decide (x3_1 < 12) = false := decide_eq_false c3
   clear c3
   replace H := Option.bind_eq_some_iff.mp H
   obtain ⟨t772, A310, H⟩ := H
   replace H : (some t772) = some r := H
   have A31 := As_.mk A310
   clear A310
   obtain rfl := Option.some.inj H
   go_wp2_with (first | ((with_reducible refine gC_ (f := 46) rfl ?_); refine goesL_ (some 54) rfl rfl Try.func46 (by kernel_rfl) rfl #[] rfl (by (try simp only [List.map_toArray, List.map_cons, List.map_nil]); first | done | rfl) ?_; (with_reducible refine (w15_wakes.calls k1  t772 _ A31.out).mono ?_); rintro e w32 ⟨rfl, hb⟩; refine ⟨_, rfl, ?_⟩; have n0_ := As_.mk (kB_ (g := gb771) (o := .cells #[.slice A0_0 l0_0.length c0_0, .int .i64 a0_1, .int .i64 a0_2, .int .i64 a0_3, .int .i64 a0_4, .int .i64 a0_5, .string a0_6, .slice A0_7 l0_7.length c0_7, .slice A0_8 l0_8.length c0_8, .slice A0_9 l0_9.length c0_9, .slice A0_10 l0_10.length c0_10, .slice A0_11 l0_11.length c0_11] 67 (0, 0)) (by (with_reducible repeat (first | refine kN_ ?_ _ | refine kD_ ?_ | refine kA_ ?_ _)); exact BK771.out) hb); have n1_ := As_.mk (bT_ (by repeat (first | (with_reducible first | exact HB.out | apply bA_ | apply bN_ | apply b1_ | refine bS_ ?_ GE771.out) | exact HB.out)) hb); clear BK771; clear HB; have BK771 := n0_; have HB := n1_; clear n0_ n1_))
   go_ret
   exact ⟨by first | rfl | (simp [eN_, eS_] <;> rfl) | (simp [*, eN_, eS_] <;> rfl), by repeat (first | (with_reducible first | exact HB.out | apply bA_ | apply bN_ | apply b1_ | refine bS_ ?_ GE771.out) | exact HB.out)⟩
end Go.Proofs.Ytibfkkjkahpobaa.PDag
end
section
-- the texts that this claim needs, out of this session's and its print's (wip/shrink.py)
namespace Go.Proofs.Ytibfkkjkahpobaa.PDag
open Go.RowKit Go.Proofs.YtibfkkjkahpobaaW.PrintWords Go.Proofs.YtibfkkjkahpobaaW.PrintLast Go.Proofs.YtibfkkjkahpobaaW.PrintMore
set_option maxRecDepth 100000
end Go.Proofs.Ytibfkkjkahpobaa.PDag
end
section
-- the texts that this claim needs, out of this session's and its print's (wip/shrink.py)
namespace Go.Proofs.Ytibfkkjkahpobaa.PDag
open Go.RowKit Go.Proofs.YtibfkkjkahpobaaW.PrintWords Go.Proofs.YtibfkkjkahpobaaW.PrintLast Go.Proofs.YtibfkkjkahpobaaW.PrintMore
set_option linter.unusedVariables false
set_option linter.unusedSimpArgs false
set_option maxRecDepth 100000
theorem urges_same (lI lI' : List S24) (a b c d e a' b' c' d' e' : Int) (s s' : ByteArray) (lN lN' : List Int) (lS lS' : List ByteArray) (lU lU' : List S140) (lB lB' : List S73) (lC lC' : List S81) (hm : lC.length % 3 = lC'.length % 3) (h1 : lC.length ≤ 1000000000000000) (h2 : lC'.length ≤ 1000000000000000) :
    ∀ k, (∀ x3, 0 ≤ x3 → x3 ≤ 12 → w15_SchedUrges.l0 k x3 lI a b c d e s lN lS lU lB lC = w15_SchedUrges.l0 k x3 lI' a' b' c' d' e' s' lN' lS' lU' lB' lC') ∧
      (∀ x3 f, 0 ≤ x3 → x3 < 12 → w15_SchedUrges.j1 k x3 f lI a b c d e s lN lS lU lB lC = w15_SchedUrges.j1 k x3 f lI' a' b' c' d' e' s' lN' lS' lU' lB' lC')
  | 0 => ⟨fun _ _ _ => by simp [w15_SchedUrges.l0], fun _ _ _ _ => by simp [w15_SchedUrges.j1]⟩
  | k + 1 => by
    obtain ⟨ih0, ih1⟩ := urges_same lI lI' a b c d e a' b' c' d' e' s s' lN lN' lS lS' lU lU' lB lB' lC lC' hm h1 h2 k
    refine ⟨fun x3 hx0 hx1 => ?_, fun x3 f hx0 hx1 => ?_⟩
    · unfold w15_SchedUrges.l0
      by_cases hx : x3 < 12
      · rw [if_pos hx, if_pos hx]
        have e2 : wrap64 (x3 + (lC.length : Int)) = x3 + (lC.length : Int) := by unfold wrap64; omega
        have e3 : wrap64 (x3 + (lC'.length : Int)) = x3 + (lC'.length : Int) := by unfold wrap64; omega
        have hi : Int.tmod (wrap64 (x3 + (lC.length : Int))) 3 = Int.tmod (wrap64 (x3 + (lC'.length : Int))) 3 := by
          rw [e2, e3, Int.tmod_eq_emod_of_nonneg (by omega), Int.tmod_eq_emod_of_nonneg (by omega)]; omega
        have hj : ∀ f, w15_SchedUrges.j1 k x3 f lI a b c d e s lN lS lU lB lC = w15_SchedUrges.j1 k x3 f lI' a' b' c' d' e' s' lN' lS' lU' lB' lC' := fun f => ih1 x3 f hx0 hx
        simp only [hi, hj]
      · rw [if_neg hx, if_neg hx]
    · unfold w15_SchedUrges.j1
      have hw : wrap64 (x3 + 1) = x3 + 1 := by unfold wrap64; omega
      have hl := ih0 (x3 + 1) (by omega) (by omega)
      simp only [hw, hl]
def urgesAt (r : Nat) : Option Bool := w15_SchedUrges.l0 200 0 [] 0 0 0 0 0 ⟨#[]⟩ [] [] [] [] (List.replicate r z81)
theorem urges0 : urgesAt 0 = some true := by kernel_rfl
theorem urges1 : urgesAt 1 = some true := by kernel_rfl
theorem urges2 : urgesAt 2 = some true := by kernel_rfl
theorem urges_true (lI : List S24) (x : S24) (lN : List Int) (lS : List ByteArray) (lU : List S140) (lB : List S73) (lC : List S81) (h : lC.length * 224 ≤ 140737488351232) : w15_SchedUrges.f 200 lI x.f0 x.f1 x.f2 x.f3 x.f4 x.f5 lN lS lU lB lC = some true := by
  unfold w15_SchedUrges.f
  rw [(urges_same lI [] x.f0 x.f1 x.f2 x.f3 x.f4 0 0 0 0 0 x.f5 ⟨#[]⟩ lN [] lS [] lU [] lB [] lC (List.replicate (lC.length % 3) z81) (by simp) (by omega) (by simp; omega) 200).1 0 (by omega) (by omega)]
  have h7 : lC.length % 3 = 0 ∨ lC.length % 3 = 1 ∨ lC.length % 3 = 2 := by omega
  rcases h7 with e | e | e <;> rw [e]
  · exact urges0
  · exact urges1
  · exact urges2
theorem urges_walk : S15.LawWalk 12 := by
  intro A0 c0 lI x A1 c1 lN A2 c2 lS A3 c3 lU A4 c4 lB A5 c5 lC w g0 b0 g1 b1 g2 b2 g3 b3 g4 b4 g5 b5 hin
  exact w15_SchedUrges.calls 200 A0 c0 lI x.f0 x.f1 x.f2 x.f3 x.f4 x.f5 A1 c1 lN A2 c2 lS A3 c3 lU A4 c4 lB A5 c5 lC true w g0 b0 g1 b1 g2 b2 g3 b3 g4 b4 g5 b5 (urges_true lI x lN lS lU lB lC hin.c.1)
end Go.Proofs.Ytibfkkjkahpobaa.PDag
end
