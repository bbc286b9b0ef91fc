import Derived.Test.YtibfkkjkahpobaaKq15
import Derived.Test.YtibfkkjkahpobaaKq20
import Derived.Test.YtibfkkjkahpobaaKq21
import Derived.Test.YtibfkkjkahpobaaKq22
import Derived.Test.YtibfkkjkahpobaaKq19
set_option linter.unusedVariables false
set_option linter.unusedSimpArgs false
open Go.RowKit Go.Proofs.YtibfkkjkahpobaaW.PrintWords Go.Proofs.YtibfkkjkahpobaaW.PrintLast Go.Proofs.YtibfkkjkahpobaaW.PrintMore
section
namespace Go.Proofs.Ytibfkkjkahpobaa.PDag
attribute [local go_sem] max2_int min2_int max_two min_two max_three min_three max_four min_four   -- for this text's walks alone
mutual
def dag_Least.l0 : Nat → List Int → Int → List (S24) → Int → Int → Int → Int → Int → Int → Int → ByteArray → Option (Int)
  | 0, _, _, _, _, _, _, _, _, _, _, _ => none
  | k + 1, x2, x7, x15, x16, x17, x474a, x474b, x474c, x474d, x474e, x474f => if x17 < x16 then (if 0 ≤ x17 then (if x17 < (x15.length : Int) then (if x17 < (x2.length : Int) then ((dag_reads.f k x474a x474b x474c x474d x474e x474f ((q24 x15 x17).f0) ((q24 x15 x17).f1) ((q24 x15 x17).f2) ((q24 x15 x17).f3) ((q24 x15 x17).f4) ((q24 x15 x17).f5)).bind fun t477 => (if t477 = true then ((isa_Late.f k ((q24 x15 x17).f0)).bind fun t478 => (dag_Least.j1 k x2 (mx x7 (wrap64 ((rd x2 x17) + t478))) (rd x2 x17) x15 x16 x17 x474a x474b x474c x474d x474e x474f ((q24 x15 x17).f0) ((q24 x15 x17).f1) ((q24 x15 x17).f2) ((q24 x15 x17).f3) ((q24 x15 x17).f4) ((q24 x15 x17).f5))) else (dag_Least.j1 k x2 x7 (rd x2 x17) x15 x16 x17 x474a x474b x474c x474d x474e x474f ((q24 x15 x17).f0) ((q24 x15 x17).f1) ((q24 x15 x17).f2) ((q24 x15 x17).f3) ((q24 x15 x17).f4) ((q24 x15 x17).f5)))) else (none)) else (none)) else (none)) else (some x7)
def dag_Least.j1 : Nat → List Int → Int → Int → List (S24) → Int → Int → Int → Int → Int → Int → Int → ByteArray → Int → Int → Int → Int → Int → ByteArray → Option (Int)
  | 0, _, _, _, _, _, _, _, _, _, _, _, _, _, _, _, _, _, _ => none
  | k + 1, x2, x7, x10, x15, x16, x17, x474a, x474b, x474c, x474d, x474e, x474f, x476a, x476b, x476c, x476d, x476e, x476f => if x474a = 33 then (dag_Least.j2 k x2 x7 x10 x15 x16 x17 true x474a x474b x474c x474d x474e x474f x476a x476b x476c x476d x476e x476f) else ((isa_Effect.f k x474a).bind fun t479 => (if t479 = true then ((isa_Effect.f k x476a).bind fun t480 => (dag_Least.j2 k x2 x7 x10 x15 x16 x17 t480 x474a x474b x474c x474d x474e x474f x476a x476b x476c x476d x476e x476f)) else (dag_Least.j2 k x2 x7 x10 x15 x16 x17 false x474a x474b x474c x474d x474e x474f x476a x476b x476c x476d x476e x476f)))
def dag_Least.j2 : Nat → List Int → Int → Int → List (S24) → Int → Int → Bool → Int → Int → Int → Int → Int → ByteArray → Int → Int → Int → Int → Int → ByteArray → Option (Int)
  | 0, _, _, _, _, _, _, _, _, _, _, _, _, _, _, _, _, _, _, _ => none
  | k + 1, x2, x7, x10, x15, x16, x17, x48, x474a, x474b, x474c, x474d, x474e, x474f, x476a, x476b, x476c, x476d, x476e, x476f => if x48 = true then (dag_Least.j3 k x2 (mx x7 (wrap64 (x10 + 1))) x10 x15 x16 x17 x474a x474b x474c x474d x474e x474f x476a x476b x476c x476d x476e x476f) else (dag_Least.j3 k x2 x7 x10 x15 x16 x17 x474a x474b x474c x474d x474e x474f x476a x476b x476c x476d x476e x476f)
def dag_Least.j3 : Nat → List Int → Int → Int → List (S24) → Int → Int → Int → Int → Int → Int → Int → ByteArray → Int → Int → Int → Int → Int → ByteArray → Option (Int)
  | 0, _, _, _, _, _, _, _, _, _, _, _, _, _, _, _, _, _, _ => none
  | k + 1, x2, x7, x10, x15, x16, x17, x474a, x474b, x474c, x474d, x474e, x474f, x476a, x476b, x476c, x476d, x476e, x476f => if x474a = 33 then (dag_Least.l0 k x2 x7 x15 x16 (wrap64 (x17 + 1)) x474a x474b x474c x474d x474e x474f) else ((isa_Late.f k x476a).bind fun t481 => (dag_Least.l0 k x2 (mx (mx x7 (wrap64 (x10 - 2))) (wrap64 ((wrap64 ((wrap64 (x10 + t481)) - 2)) - 1))) x15 x16 (wrap64 (x17 + 1)) x474a x474b x474c x474d x474e x474f))
end
def dag_Least.f (k : Nat) (l0 : List (S24)) (a1_0 : Int) (a1_1 : Int) (a1_2 : Int) (a1_3 : Int) (a1_4 : Int) (a1_5 : ByteArray) (l2 : List Int) : Option (Int) := if a1_0 = 0 then (some 0) else (dag_Least.l0 k l2 0 l0 (l0.length : Int) 0 a1_0 a1_1 a1_2 a1_3 a1_4 a1_5)
set_option maxHeartbeats 8000000 in
set_option maxRecDepth 100000 in
theorem dag_Least.calls (k : Nat) (A0 : Option Addr) (c0 : Nat) (l0 : List (S24)) (a1_0 : Int) (a1_1 : Int) (a1_2 : Int) (a1_3 : Int) (a1_4 : Int) (a1_5 : ByteArray) (A2 : Option Addr) (c2 : Nat) (l2 : List Int) (r : Int) (w : World) (hr0 : Kd.C k24 w A0 l0.length l0) (hc0 : l0.length ≤ c0) (hr2 : Kd.C (Kd.int .i64) w A2 l2.length l2) (hc2 : l2.length ≤ c2) (h : dag_Least.f k l0 a1_0 a1_1 a1_2 a1_3 a1_4 a1_5 l2 = some r) :
    Calls Try.prog 65 #[.slice A0 l0.length c0, .agg #[.int .i64 a1_0, .int .i64 a1_1, .int .i64 a1_2, .int .i64 a1_3, .int .i64 a1_4, .string a1_5], .slice A2 l2.length c2] w fun e w' => e = .returned (.int .i64 r) ∧ Below w.heap.size w w' := by
 have hu24 := Try.underlying24
 have HR0 := As_.mk hr0
 have HC0 := As_.mk hc0
 clear hr0 hc0
 have HR2 := As_.mk hr2
 have HC2 := As_.mk hc2
 clear hr2 hc2
 have HB := As_.mk (Below.refl w.heap.size w)
 have H : (if a1_0 = 0 then (some 0) else (dag_Least.l0 k l2 0 l0 (l0.length : Int) 0 a1_0 a1_1 a1_2 a1_3 a1_4 a1_5)) = some r := h
 clear h
 by_cases c4 : a1_0 = 0
 ·rw [if_pos c4] at H
  have c4b0 := beq_iff_eq.mpr c4
  have c4b1 := bF_ c4
  clear c4
  obtain rfl := oI_ H
  go_enter Try.func65, Try.ntmps65
  go_wp2_with (first | ((with_reducible refine gate_dst (N := 4) rfl ?_); refine bX_ (N := 4) (cs := #[.int .i64 a1_0, .int .i64 a1_1, .int .i64 a1_2, .int .i64 a1_3, .int .i64 a1_4, .string a1_5]) (t := 24) ?_; intro gb473 hg w5 hbox hb; replace BK473 := As_.mk (hbox); replace GW473 := As_.mk ((by rw [hg]; exact (bY_ (bl_ HB)) : w.heap.size ≤ gb473)); replace GE473 := As_.mk ((by rw [hg]; exact (bY_ (bl_ HB)) : w.heap.size ≤ gb473)); replace HB := As_.mk (bT_ (bl_ HB) hb); clear hb hbox hg; obtain ⟨hcz6_0, hcz6_1, hcz6_2, hcz6_3, hcz6_4, hcz6_5⟩ := cl6_ BK473.out; obtain ⟨hfz6_0, hfz6_1, hfz6_2, hfz6_3, hfz6_4, hfz6_5⟩ := fz6_ BK473.out))
  go_ret
  exact ⟨by first | rfl | (simp [eN_, eS_] <;> rfl) | (simp [*, eN_, eS_] <;> rfl), bs_ HB GE473⟩
 rw [if_neg c4] at H
 have c4b0 := bE_ c4
 have c4b1 := bne_iff_ne.mpr c4
 have H' := As_.mk H
 clear H
 go_enter Try.func65, Try.ntmps65
 go_wp2_with (first | ((with_reducible refine gate_dst (N := 4) rfl ?_); refine bX_ (N := 4) (cs := #[.int .i64 a1_0, .int .i64 a1_1, .int .i64 a1_2, .int .i64 a1_3, .int .i64 a1_4, .string a1_5]) (t := 24) ?_; intro gb473 hg w7 hbox hb; replace BK473 := As_.mk (hbox); replace GW473 := As_.mk ((by rw [hg]; exact (bY_ (bl_ HB)) : w.heap.size ≤ gb473)); replace GE473 := As_.mk ((by rw [hg]; exact (bY_ (bl_ HB)) : w.heap.size ≤ gb473)); replace HB := As_.mk (bT_ (bl_ HB) hb); clear hb hbox hg; obtain ⟨hcz8_0, hcz8_1, hcz8_2, hcz8_3, hcz8_4, hcz8_5⟩ := cl6_ BK473.out; obtain ⟨hfz8_0, hfz8_1, hfz8_2, hfz8_3, hfz8_4, hfz8_5⟩ := fz6_ BK473.out))
 go_loopg [7, 17] k (fun kq v7 v17 w' => ∃ (x7_1 : Int) (x17_1 : Int), v7 = .int .i64 x7_1 ∧ v17 = .int .i64 x17_1 ∧ As_ (dag_Least.l0 kq l2 x7_1 l0 (l0.length : Int) x17_1 a1_0 a1_1 a1_2 a1_3 a1_4 a1_5 = some r) ∧ As_ (kq ≤ k) ∧ As_ (w'.heap[gb473]? = some (.cells #[.int .i64 a1_0, .int .i64 a1_1, .int .i64 a1_2, .int .i64 a1_3, .int .i64 a1_4, .string a1_5] 24 (0, 0))) ∧ As_ (Below w.heap.size w w'))
 case atStart => exact ⟨(0), (0), eQ_, eQ_, H', ⟨Nat.le_refl _⟩, ⟨rB_ BK473⟩, ⟨bs_ HB GE473⟩⟩
 case round =>
  clear H'
  obtain ⟨x7_1, x17_1, rfl, rfl, HA, HK1, BK473, HB⟩ := hrel
  cases gk with
  | zero => exact absurd HA.out (by simp [dag_Least.l0])
  | succ k1 =>
   have H := HA.out
   clear HA
   simp only [dag_Least.l0] at H
   by_cases c9 : x17_1 < (l0.length : Int)
   ·rw [if_pos c9] at H
    have c9b0 := decide_eq_true c9
    clear c9
    by_cases c10 : 0 ≤ x17_1
    ·rw [if_pos c10] at H
     have c10b0 := decide_eq_true c10
     clear c10
     by_cases c11 : x17_1 < (l0.length : Int)
     ·rw [if_pos c11] at H
      have c11b0 := decide_eq_true c11
      clear c11
      by_cases c12 : x17_1 < (l2.length : Int)
      ·rw [if_pos c12] at H
       have c12b0 := decide_eq_true c12
       clear c12
       replace H := oB_ H
       obtain ⟨t477, A130, H⟩ := H
       have A13 := As_.mk A130
       clear A130
       have HC14 := As_.mk H
       clear H
       have p474 : 0 ≤ (x17_1 : Int) := oD_
       have q474 : x17_1 < (l0.length : Int) := oD_
       obtain ⟨ad474, e474, hx474_0, hx474_1, hx474_2, hx474_3, hx474_4, hx474_5⟩ := at_T24 HR0.out x17_1 p474 q474
       cases e474
       replace hx474_0 := hC_ HB hx474_0
       replace hx474_1 := hC_ HB hx474_1
       replace hx474_2 := hC_ HB hx474_2
       replace hx474_3 := hC_ HB hx474_3
       replace hx474_4 := hC_ HB hx474_4
       replace hx474_5 := hC_ HB hx474_5
       replace p474 := eq_true p474
       replace q474 := eq_true q474
       go_upto_if 28 with (first | ((with_reducible refine gate_dst (N := 9) rfl ?_); refine bX_ (N := 9) (cs := #[.int .i64 0, .int .i64 0, .int .i64 0, .int .i64 0, .int .i64 0, .string (⟨#[]⟩ : ByteArray)]) (t := 24) ?_; intro gb475 hg w15 hbox hb; replace BK475 := As_.mk (hbox); replace GW475 := As_.mk ((by rw [hg]; exact (bY_ (bs_ HB GE473)) : w.heap.size ≤ gb475)); replace GE475 := As_.mk ((by rw [hg]; exact (bY_ (bs_ HB GE473)) : w.heap.size ≤ gb475)); replace HB := As_.mk (bT_ (bs_ HB GE473) hb); replace NB473_475 := As_.mk ((by rw [hg]; exact Nat.ne_of_lt (blk_lt (g := gb473) (o := .cells #[.int .i64 a1_0, .int .i64 a1_1, .int .i64 a1_2, .int .i64 a1_3, .int .i64 a1_4, .string a1_5] 24 (0, 0)) (rB_ BK473)) : gb473 ≠ gb475)); replace NB475_473 := As_.mk ((by rw [hg]; exact Nat.ne_of_gt (blk_lt (g := gb473) (o := .cells #[.int .i64 a1_0, .int .i64 a1_1, .int .i64 a1_2, .int .i64 a1_3, .int .i64 a1_4, .string a1_5] 24 (0, 0)) (rB_ BK473)) : gb475 ≠ gb473)); replace BK473 := As_.mk (kB_ (rB_ BK473) hb); clear hb hbox hg; have hnb16 := NB475_473.out; have hnc16 := NB473_475.out; obtain ⟨hcz17_0, hcz17_1, hcz17_2, hcz17_3, hcz17_4, hcz17_5⟩ := cl6_ BK475.out; obtain ⟨hfz17_0, hfz17_1, hfz17_2, hfz17_3, hfz17_4, hfz17_5⟩ := fz6_ BK475.out; have p476 : 0 ≤ (x17_1 : Int) := oD_; have q476 : x17_1 < (l2.length : Int) := oD_; obtain ⟨ad476, e476, hx476_0⟩ := Kd.at_int HR2.out x17_1 p476 q476; cases e476; have hn476_0 : ad476.block ≠ gb475 := Nat.ne_of_lt (Nat.lt_of_lt_of_le (by have := World.block_lt_of_cell? _ _ hx476_0; first | rwa [add_block] at this | exact this) GW475.out); have hn476_1 : ad476.block ≠ gb475 := Nat.ne_of_lt (Nat.lt_of_lt_of_le (by have := World.block_lt_of_cell? _ _ hx476_0; first | rwa [add_block] at this | exact this) GW475.out); have hn476_2 : ad476.block ≠ gb475 := Nat.ne_of_lt (Nat.lt_of_lt_of_le (by have := World.block_lt_of_cell? _ _ hx476_0; first | rwa [add_block] at this | exact this) GW475.out); have hn476_3 : ad476.block ≠ gb475 := Nat.ne_of_lt (Nat.lt_of_lt_of_le (by have := World.block_lt_of_cell? _ _ hx476_0; first | rwa [add_block] at this | exact this) GW475.out); have hn476_4 : ad476.block ≠ gb475 := Nat.ne_of_lt (Nat.lt_of_lt_of_le (by have := World.block_lt_of_cell? _ _ hx476_0; first | rwa [add_block] at this | exact this) GW475.out); have hn476_5 : ad476.block ≠ gb475 := Nat.ne_of_lt (Nat.lt_of_lt_of_le (by have := World.block_lt_of_cell? _ _ hx476_0; first | rwa [add_block] at this | exact this) GW475.out); replace hx476_0 := hC_ HB hx476_0; replace hx476_0 := (cell_far (p := ⟨gb475, 0, none⟩) (by first | (rw [add_block]; exact hn476_0) | (show (Addr.add _ _).block ≠ _; rw [add_block]; exact hn476_0) | exact hn476_0) (.int .i64 ((q24 l0 x17_1).f0))).trans hx476_0; replace hx476_0 := (cell_far (p := ⟨gb475, 1, none⟩) (by first | (rw [add_block]; exact hn476_1) | (show (Addr.add _ _).block ≠ _; rw [add_block]; exact hn476_1) | exact hn476_1) (.int .i64 ((q24 l0 x17_1).f1))).trans hx476_0; replace hx476_0 := (cell_far (p := ⟨gb475, 2, none⟩) (by first | (rw [add_block]; exact hn476_2) | (show (Addr.add _ _).block ≠ _; rw [add_block]; exact hn476_2) | exact hn476_2) (.int .i64 ((q24 l0 x17_1).f2))).trans hx476_0; replace hx476_0 := (cell_far (p := ⟨gb475, 3, none⟩) (by first | (rw [add_block]; exact hn476_3) | (show (Addr.add _ _).block ≠ _; rw [add_block]; exact hn476_3) | exact hn476_3) (.int .i64 ((q24 l0 x17_1).f3))).trans hx476_0; replace hx476_0 := (cell_far (p := ⟨gb475, 4, none⟩) (by first | (rw [add_block]; exact hn476_4) | (show (Addr.add _ _).block ≠ _; rw [add_block]; exact hn476_4) | exact hn476_4) (.int .i64 ((q24 l0 x17_1).f4))).trans hx476_0; replace hx476_0 := (cell_far (p := ⟨gb475, 5, none⟩) (by first | (rw [add_block]; exact hn476_5) | (show (Addr.add _ _).block ≠ _; rw [add_block]; exact hn476_5) | exact hn476_5) (.string ((q24 l0 x17_1).f5))).trans hx476_0; clear hn476_0; clear hn476_1; clear hn476_2; clear hn476_3; clear hn476_4; clear hn476_5; replace p476 := eq_true p476; replace q476 := eq_true q476; obtain ⟨hcz18_0, hcz18_1, hcz18_2, hcz18_3, hcz18_4, hcz18_5⟩ := cl6_ BK473.out; obtain ⟨hfz18_0, hfz18_1, hfz18_2, hfz18_3, hfz18_4, hfz18_5⟩ := fz6_ BK473.out) | ((with_reducible refine gC_ (f := 103) rfl ?_); refine gL_ (some 28) Try.func103 #[.agg #[.int .i64 a1_0, .int .i64 a1_1, .int .i64 a1_2, .int .i64 a1_3, .int .i64 a1_4, .string a1_5], .agg #[.int .i64 ((q24 l0 x17_1).f0), .int .i64 ((q24 l0 x17_1).f1), .int .i64 ((q24 l0 x17_1).f2), .int .i64 ((q24 l0 x17_1).f3), .int .i64 ((q24 l0 x17_1).f4), .string ((q24 l0 x17_1).f5)]] rfl ?_; (with_reducible refine (dag_reads.calls k1 a1_0 a1_1 a1_2 a1_3 a1_4 a1_5 ((q24 l0 x17_1).f0) ((q24 l0 x17_1).f1) ((q24 l0 x17_1).f2) ((q24 l0 x17_1).f3) ((q24 l0 x17_1).f4) ((q24 l0 x17_1).f5) t477 _ A13.out).mono ?_); rintro e w19 ⟨rfl, hb⟩; refine ⟨_, rfl, ?_⟩; replace BK473 := As_.mk (kB_ (g := gb473) (o := .cells #[.int .i64 a1_0, .int .i64 a1_1, .int .i64 a1_2, .int .i64 a1_3, .int .i64 a1_4, .string a1_5] 24 (0, 0)) (by (with_reducible repeat (first | refine kN_ ?_ _ | refine kD_ ?_ | refine kA_ ?_ _)); refine blk_far ?_ NB473_475.out _; (with_reducible repeat (first | refine kN_ ?_ _ | refine kD_ ?_ | refine kA_ ?_ _)); refine blk_far ?_ NB473_475.out _; (with_reducible repeat (first | refine kN_ ?_ _ | refine kD_ ?_ | refine kA_ ?_ _)); refine blk_far ?_ NB473_475.out _; (with_reducible repeat (first | refine kN_ ?_ _ | refine kD_ ?_ | refine kA_ ?_ _)); refine blk_far ?_ NB473_475.out _; (with_reducible repeat (first | refine kN_ ?_ _ | refine kD_ ?_ | refine kA_ ?_ _)); refine blk_far ?_ NB473_475.out _; (with_reducible repeat (first | refine kN_ ?_ _ | refine kD_ ?_ | refine kA_ ?_ _)); refine blk_far ?_ NB473_475.out _; (with_reducible repeat (first | refine kN_ ?_ _ | refine kD_ ?_ | refine kA_ ?_ _)); exact BK473.out) hb); replace BK475 := As_.mk (kB_ (g := gb475) (o := .cells #[.int .i64 ((q24 l0 x17_1).f0), .int .i64 ((q24 l0 x17_1).f1), .int .i64 ((q24 l0 x17_1).f2), .int .i64 ((q24 l0 x17_1).f3), .int .i64 ((q24 l0 x17_1).f4), .string ((q24 l0 x17_1).f5)] 24 (0, 0)) (by (with_reducible repeat (first | refine kN_ ?_ _ | refine kD_ ?_ | refine kA_ ?_ _)); refine blk_put (cs := #[.int .i64 ((q24 l0 x17_1).f0), .int .i64 ((q24 l0 x17_1).f1), .int .i64 ((q24 l0 x17_1).f2), .int .i64 ((q24 l0 x17_1).f3), .int .i64 ((q24 l0 x17_1).f4), .string (⟨#[]⟩ : ByteArray)]) ?_ 5 _ rfl; (with_reducible repeat (first | refine kN_ ?_ _ | refine kD_ ?_ | refine kA_ ?_ _)); refine blk_put (cs := #[.int .i64 ((q24 l0 x17_1).f0), .int .i64 ((q24 l0 x17_1).f1), .int .i64 ((q24 l0 x17_1).f2), .int .i64 ((q24 l0 x17_1).f3), .int .i64 0, .string (⟨#[]⟩ : ByteArray)]) ?_ 4 _ rfl; (with_reducible repeat (first | refine kN_ ?_ _ | refine kD_ ?_ | refine kA_ ?_ _)); refine blk_put (cs := #[.int .i64 ((q24 l0 x17_1).f0), .int .i64 ((q24 l0 x17_1).f1), .int .i64 ((q24 l0 x17_1).f2), .int .i64 0, .int .i64 0, .string (⟨#[]⟩ : ByteArray)]) ?_ 3 _ rfl; (with_reducible repeat (first | refine kN_ ?_ _ | refine kD_ ?_ | refine kA_ ?_ _)); refine blk_put (cs := #[.int .i64 ((q24 l0 x17_1).f0), .int .i64 ((q24 l0 x17_1).f1), .int .i64 0, .int .i64 0, .int .i64 0, .string (⟨#[]⟩ : ByteArray)]) ?_ 2 _ rfl; (with_reducible repeat (first | refine kN_ ?_ _ | refine kD_ ?_ | refine kA_ ?_ _)); refine blk_put (cs := #[.int .i64 ((q24 l0 x17_1).f0), .int .i64 0, .int .i64 0, .int .i64 0, .int .i64 0, .string (⟨#[]⟩ : ByteArray)]) ?_ 1 _ rfl; (with_reducible repeat (first | refine kN_ ?_ _ | refine kD_ ?_ | refine kA_ ?_ _)); refine blk_put (cs := #[.int .i64 0, .int .i64 0, .int .i64 0, .int .i64 0, .int .i64 0, .string (⟨#[]⟩ : ByteArray)]) ?_ 0 _ rfl; (with_reducible repeat (first | refine kN_ ?_ _ | refine kD_ ?_ | refine kA_ ?_ _)); exact BK475.out) hb); replace HB := As_.mk (bT_ (by repeat (first | (with_reducible first | exact HB.out | apply bA_ | apply bN_ | apply b1_ | refine bS_ ?_ GE473.out | refine bS_ ?_ GE475.out) | exact HB.out)) hb)))
       (try simp only [Act.put, List.setIfInBounds_toArray, List.set_cons_zero, List.set_cons_succ])
       go_cut [7] (fun v7 wc => ∃ (kq : Nat) (x7_13 : Int), v7 = .int .i64 x7_13 ∧ As_ (dag_Least.j1 kq l2 x7_13 (rd l2 x17_1) l0 (l0.length : Int) x17_1 a1_0 a1_1 a1_2 a1_3 a1_4 a1_5 ((q24 l0 x17_1).f0) ((q24 l0 x17_1).f1) ((q24 l0 x17_1).f2) ((q24 l0 x17_1).f3) ((q24 l0 x17_1).f4) ((q24 l0 x17_1).f5) = some r) ∧ As_ (kq ≤ k1) ∧ As_ (wc.heap[gb473]? = some (.cells #[.int .i64 a1_0, .int .i64 a1_1, .int .i64 a1_2, .int .i64 a1_3, .int .i64 a1_4, .string a1_5] 24 (0, 0))) ∧ As_ (wc.heap[gb475]? = some (.cells #[.int .i64 ((q24 l0 x17_1).f0), .int .i64 ((q24 l0 x17_1).f1), .int .i64 ((q24 l0 x17_1).f2), .int .i64 ((q24 l0 x17_1).f3), .int .i64 ((q24 l0 x17_1).f4), .string ((q24 l0 x17_1).f5)] 24 (0, 0))) ∧ As_ (Below w.heap.size w wc))
       case first =>
        have H := HC14.out
        clear HC14
        by_cases c20 : t477 = true
        ·subst c20
         rw [if_pos rfl] at H
         replace H := oB_ H
         obtain ⟨t478, A210, H⟩ := H
         have A21 := As_.mk A210
         clear A210
         obtain ⟨ji22, hji22⟩ : ∃ j_ : Int, (mx x7_1 (wrap64 ((rd l2 x17_1) + t478))) = j_ := ⟨_, rfl⟩
         replace H : (dag_Least.j1 k1 l2 ji22 (rd l2 x17_1) l0 (l0.length : Int) x17_1 a1_0 a1_1 a1_2 a1_3 a1_4 a1_5 ((q24 l0 x17_1).f0) ((q24 l0 x17_1).f1) ((q24 l0 x17_1).f2) ((q24 l0 x17_1).f3) ((q24 l0 x17_1).f4) ((q24 l0 x17_1).f5)) = some r := by first | (rw [hji22] at H; exact H) | (simp only [hji22] at H ⊢; exact H)
         (try rw [hji22] at A21)
         have hji22_ : (if x7_1 < (wrap64 ((rd l2 x17_1) + t478)) then (wrap64 ((rd l2 x17_1) + t478)) else x7_1) = ji22 := hji22
         have H' := As_.mk H
         clear H
         have hnb23 := NB475_473.out
         have hnc23 := NB473_475.out
         obtain ⟨hcz24_0, hcz24_1, hcz24_2, hcz24_3, hcz24_4, hcz24_5⟩ := cl6_ BK475.out
         obtain ⟨hfz24_0, hfz24_1, hfz24_2, hfz24_3, hfz24_4, hfz24_5⟩ := fz6_ BK475.out
         go_wp2_with (first | ((with_reducible refine gC_ (f := 92) rfl ?_); refine gL_ (some 33) Try.func92 #[.int .i64 ((q24 l0 x17_1).f0)] rfl ?_; (with_reducible refine (isa_Late.calls k1 ((q24 l0 x17_1).f0) t478 _ A21.out).mono ?_); rintro e w' ⟨rfl, ⟨nd, rfl⟩⟩; refine ⟨_, rfl, ?_⟩))
         go_meet
         case rel => exact ⟨_, (ji22), (by first | rfl | (simp; done) | (simp only [← hji22] <;> (first | rfl | simp)) | (simp [*]; done) | (congr 1; rw [Bool.eq_iff_iff]; simp; done)), H', ⟨by have := HK1.out; first | omega | exact Nat.le_refl _⟩, ⟨rB_ BK473⟩, ⟨rB_ BK475⟩, ⟨by repeat (first | (with_reducible first | exact HB.out | apply bA_ | apply bN_ | apply b1_ | refine bS_ ?_ GE473.out | refine bS_ ?_ GE475.out) | exact HB.out)⟩⟩
        replace c20 := eF_ c20
        subst c20
        rw [if_neg Bool.false_ne_true] at H
        have H' := As_.mk H
        clear H
        go_wp2
        go_meet
        case rel => exact ⟨_, (x7_1), eQ_, H', ⟨by have := HK1.out; first | omega | exact Nat.le_refl _⟩, ⟨rB_ BK473⟩, ⟨rB_ BK475⟩, ⟨by repeat (first | (with_reducible first | exact HB.out | apply bA_ | apply bN_ | apply b1_ | refine bS_ ?_ GE473.out | refine bS_ ?_ GE475.out) | exact HB.out)⟩⟩
       case rest =>
        clear HC14
        obtain ⟨kq, x7_13, rfl, HA, HJ13, BK473, BK475, HB⟩ := hcut
        cases kq with
        | zero => exact absurd HA.out (by simp [dag_Least.j1])
        | succ kj13 =>
         have H := HA.out
         clear HA
         simp only [dag_Least.j1] at H
         have HC25 := As_.mk H
         clear H
         go_upto_region 10 with (fail)
         go_cut [48] (fun v48 wc => ∃ (kq : Nat) (x48_24 : Bool), v48 = .bool x48_24 ∧ As_ (dag_Least.j2 kq l2 x7_13 (rd l2 x17_1) l0 (l0.length : Int) x17_1 x48_24 a1_0 a1_1 a1_2 a1_3 a1_4 a1_5 ((q24 l0 x17_1).f0) ((q24 l0 x17_1).f1) ((q24 l0 x17_1).f2) ((q24 l0 x17_1).f3) ((q24 l0 x17_1).f4) ((q24 l0 x17_1).f5) = some r) ∧ As_ (kq ≤ kj13) ∧ As_ (wc.heap[gb473]? = some (.cells #[.int .i64 a1_0, .int .i64 a1_1, .int .i64 a1_2, .int .i64 a1_3, .int .i64 a1_4, .string a1_5] 24 (0, 0))) ∧ As_ (wc.heap[gb475]? = some (.cells #[.int .i64 ((q24 l0 x17_1).f0), .int .i64 ((q24 l0 x17_1).f1), .int .i64 ((q24 l0 x17_1).f2), .int .i64 ((q24 l0 x17_1).f3), .int .i64 ((q24 l0 x17_1).f4), .string ((q24 l0 x17_1).f5)] 24 (0, 0))) ∧ As_ (Below w.heap.size w wc))
         case first =>
          have H := HC25.out
          clear HC25
          by_cases c26 : a1_0 = 33
          ·rw [if_pos c26] at H
           have c26b0 := beq_iff_eq.mpr c26
           have c26b1 := bF_ c26
           clear c26
           (first | rw [c26b0] | (simp only [i64_w, i32_w]; rw [c26b0]) | skip)
           have H' := As_.mk H
           clear H
           have hnb27 := NB473_475.out
           have hnc27 := NB475_473.out
           obtain ⟨hcz28_0, hcz28_1, hcz28_2, hcz28_3, hcz28_4, hcz28_5⟩ := cl6_ BK473.out
           obtain ⟨hfz28_0, hfz28_1, hfz28_2, hfz28_3, hfz28_4, hfz28_5⟩ := fz6_ BK473.out
           go_wp2
           go_meet
           case rel => exact ⟨_, (true), eQ_, H', ⟨by have := HK1.out; have := HJ13.out; first | omega | exact Nat.le_refl _⟩, ⟨rB_ BK473⟩, ⟨rB_ BK475⟩, ⟨by repeat (first | (with_reducible first | exact HB.out | apply bA_ | apply bN_ | apply b1_ | refine bS_ ?_ GE473.out | refine bS_ ?_ GE475.out) | exact HB.out)⟩⟩
          rw [if_neg c26] at H
          have c26b0 := bE_ c26
          have c26b1 := bne_iff_ne.mpr c26
          (first | rw [c26b0] | (simp only [i64_w, i32_w]; rw [c26b0]) | skip)
          replace H := oB_ H
          obtain ⟨t479, A290, H⟩ := H
          have A29 := As_.mk A290
          clear A290
          by_cases c30 : t479 = true
          ·subst c30
           rw [if_pos rfl] at H
           replace H := oB_ H
           obtain ⟨t480, A310, H⟩ := H
           have A31 := As_.mk A310
           clear A310
           have H' := As_.mk H
           clear H
           have hnb32 := NB473_475.out
           have hnc32 := NB475_473.out
           obtain ⟨hcz33_0, hcz33_1, hcz33_2, hcz33_3, hcz33_4, hcz33_5⟩ := cl6_ BK473.out
           obtain ⟨hfz33_0, hfz33_1, hfz33_2, hfz33_3, hfz33_4, hfz33_5⟩ := fz6_ BK473.out
           go_wp2_with (first | (go_at_call 94; (with_reducible refine (isa_Effect.calls kj13 a1_0 true _ A29.out).mono ?_); rintro e w' ⟨rfl, ⟨nd, rfl⟩⟩; obtain ⟨hcz34_0, hcz34_1, hcz34_2, hcz34_3, hcz34_4, hcz34_5⟩ := cl6_ BK475.out; obtain ⟨hfz34_0, hfz34_1, hfz34_2, hfz34_3, hfz34_4, hfz34_5⟩ := fz6_ BK475.out) | (go_at_call 94; (with_reducible refine (isa_Effect.calls kj13 ((q24 l0 x17_1).f0) t480 _ A31.out).mono ?_); rintro e w' ⟨rfl, ⟨nd, rfl⟩⟩))
           go_meet
           case rel => exact ⟨_, (t480), eQ_, H', ⟨by have := HK1.out; have := HJ13.out; first | omega | exact Nat.le_refl _⟩, ⟨rB_ BK473⟩, ⟨rB_ BK475⟩, ⟨by repeat (first | (with_reducible first | exact HB.out | apply bA_ | apply bN_ | apply b1_ | refine bS_ ?_ GE473.out | refine bS_ ?_ GE475.out) | exact HB.out)⟩⟩
          replace c30 := eF_ c30
          subst c30
          rw [if_neg Bool.false_ne_true] at H
          have H' := As_.mk H
          clear H
          have hnb35 := NB473_475.out
          have hnc35 := NB475_473.out
          obtain ⟨hcz36_0, hcz36_1, hcz36_2, hcz36_3, hcz36_4, hcz36_5⟩ := cl6_ BK473.out
          obtain ⟨hfz36_0, hfz36_1, hfz36_2, hfz36_3, hfz36_4, hfz36_5⟩ := fz6_ BK473.out
          go_wp2_with (first | (go_at_call 94; (with_reducible refine (isa_Effect.calls kj13 a1_0 false _ A29.out).mono ?_); rintro e w' ⟨rfl, ⟨nd, rfl⟩⟩))
          go_meet
          case rel => exact ⟨_, (false), eQ_, H', ⟨by have := HK1.out; have := HJ13.out; first | omega | exact Nat.le_refl _⟩, ⟨rB_ BK473⟩, ⟨rB_ BK475⟩, ⟨by repeat (first | (with_reducible first | exact HB.out | apply bA_ | apply bN_ | apply b1_ | refine bS_ ?_ GE473.out | refine bS_ ?_ GE475.out) | exact HB.out)⟩⟩
         case rest =>
          clear HC25
          obtain ⟨kq, x48_24, rfl, HA, HJ24, BK473, BK475, HB⟩ := hcut
          cases kq with
          | zero => exact absurd HA.out (by simp [dag_Least.j2])
          | succ kj24 =>
           have H := HA.out
           clear HA
           simp only [dag_Least.j2] at H
           have HC37 := As_.mk H
           clear H
           go_upto_if 48 with (fail)
           go_cut [7] (fun v7 wc => ∃ (kq : Nat) (x7_36 : Int), v7 = .int .i64 x7_36 ∧ As_ (dag_Least.j3 kq l2 x7_36 (rd l2 x17_1) l0 (l0.length : Int) x17_1 a1_0 a1_1 a1_2 a1_3 a1_4 a1_5 ((q24 l0 x17_1).f0) ((q24 l0 x17_1).f1) ((q24 l0 x17_1).f2) ((q24 l0 x17_1).f3) ((q24 l0 x17_1).f4) ((q24 l0 x17_1).f5) = some r) ∧ As_ (kq ≤ kj24) ∧ As_ (wc.heap[gb473]? = some (.cells #[.int .i64 a1_0, .int .i64 a1_1, .int .i64 a1_2, .int .i64 a1_3, .int .i64 a1_4, .string a1_5] 24 (0, 0))) ∧ As_ (wc.heap[gb475]? = some (.cells #[.int .i64 ((q24 l0 x17_1).f0), .int .i64 ((q24 l0 x17_1).f1), .int .i64 ((q24 l0 x17_1).f2), .int .i64 ((q24 l0 x17_1).f3), .int .i64 ((q24 l0 x17_1).f4), .string ((q24 l0 x17_1).f5)] 24 (0, 0))) ∧ As_ (Below w.heap.size w wc))
           case first =>
            have H := HC37.out
            clear HC37
            by_cases c38 : x48_24 = true
            ·subst c38
             rw [if_pos rfl] at H
             obtain ⟨ji39, hji39⟩ : ∃ j_ : Int, (mx x7_13 (wrap64 ((rd l2 x17_1) + 1))) = j_ := ⟨_, rfl⟩
             replace H : (dag_Least.j3 kj24 l2 ji39 (rd l2 x17_1) l0 (l0.length : Int) x17_1 a1_0 a1_1 a1_2 a1_3 a1_4 a1_5 ((q24 l0 x17_1).f0) ((q24 l0 x17_1).f1) ((q24 l0 x17_1).f2) ((q24 l0 x17_1).f3) ((q24 l0 x17_1).f4) ((q24 l0 x17_1).f5)) = some r := by first | (rw [hji39] at H; exact H) | (simp only [hji39] at H ⊢; exact H)
             have hji39_ : (if x7_13 < (wrap64 ((rd l2 x17_1) + 1)) then (wrap64 ((rd l2 x17_1) + 1)) else x7_13) = ji39 := hji39
             have H' := As_.mk H
             clear H
             go_wp2
             go_meet
             case rel => exact ⟨_, (ji39), (by first | rfl | (simp; done) | (simp only [← hji39] <;> (first | rfl | simp)) | (simp [*]; done) | (congr 1; rw [Bool.eq_iff_iff]; simp; done)), H', ⟨by have := HK1.out; have := HJ13.out; have := HJ24.out; first | omega | exact Nat.le_refl _⟩, ⟨rB_ BK473⟩, ⟨rB_ BK475⟩, ⟨by repeat (first | (with_reducible first | exact HB.out | apply bA_ | apply bN_ | apply b1_ | refine bS_ ?_ GE473.out | refine bS_ ?_ GE475.out) | exact HB.out)⟩⟩
            replace c38 := eF_ c38
            subst c38
            rw [if_neg Bool.false_ne_true] at H
            have H' := As_.mk H
            clear H
            go_wp2
            go_meet
            case rel => exact ⟨_, (x7_13), eQ_, H', ⟨by have := HK1.out; have := HJ13.out; have := HJ24.out; first | omega | exact Nat.le_refl _⟩, ⟨rB_ BK473⟩, ⟨rB_ BK475⟩, ⟨by repeat (first | (with_reducible first | exact HB.out | apply bA_ | apply bN_ | apply b1_ | refine bS_ ?_ GE473.out | refine bS_ ?_ GE475.out) | exact HB.out)⟩⟩
           case rest =>
            clear HC37
            obtain ⟨kq, x7_36, rfl, HA, HJ36, BK473, BK475, HB⟩ := hcut
            cases kq with
            | zero => exact absurd HA.out (by simp [dag_Least.j3])
            | succ kj36 =>
             have H := HA.out
             clear HA
             simp only [dag_Least.j3] at H
             by_cases c40 : a1_0 = 33
             ·rw [if_pos c40] at H
              have c40b0 := beq_iff_eq.mpr c40
              have c40b1 := bF_ c40
              clear c40
              have H' := As_.mk H
              clear H
              have hnb41 := NB473_475.out
              have hnc41 := NB475_473.out
              obtain ⟨hcz42_0, hcz42_1, hcz42_2, hcz42_3, hcz42_4, hcz42_5⟩ := cl6_ BK473.out
              obtain ⟨hfz42_0, hfz42_1, hfz42_2, hfz42_3, hfz42_4, hfz42_5⟩ := fz6_ BK473.out
              go_wp2
              go_roundg kj36
              case measure => have := HK1.out; have := HJ13.out; have := HJ24.out; have := HJ36.out; omega
              case rel => exact ⟨(x7_36), (wrap64 (x17_1 + 1)), eQ_, eQ_, H', ⟨by have := HK1.out; have := HJ13.out; have := HJ24.out; have := HJ36.out; omega⟩, ⟨rB_ BK473⟩, ⟨by repeat (first | (with_reducible first | exact HB.out | apply bA_ | apply bN_ | apply b1_ | refine bS_ ?_ GE473.out | refine bS_ ?_ GE475.out) | exact HB.out)⟩⟩
             rw [if_neg c40] at H
             have c40b0 := bE_ c40
             have c40b1 := bne_iff_ne.mpr c40
             replace H := oB_ H
             obtain ⟨t481, A430, H⟩ := H
             have A43 := As_.mk A430
             clear A430
             obtain ⟨ji44, hji44⟩ : ∃ j_ : Int, (mx x7_36 (wrap64 ((rd l2 x17_1) - 2))) = j_ := ⟨_, rfl⟩
             replace H : (dag_Least.l0 kj36 l2 (mx (ji44) (wrap64 ((wrap64 ((wrap64 ((rd l2 x17_1) + t481)) - 2)) - 1))) l0 (l0.length : Int) (wrap64 (x17_1 + 1)) a1_0 a1_1 a1_2 a1_3 a1_4 a1_5) = some r := by first | (rw [hji44] at H; exact H) | (simp only [hji44] at H ⊢; exact H)
             (try rw [hji44] at A43)
             have hji44_ : (if x7_36 < (wrap64 ((rd l2 x17_1) - 2)) then (wrap64 ((rd l2 x17_1) - 2)) else x7_36) = ji44 := hji44
             obtain ⟨ji45, hji45⟩ : ∃ j_ : Int, (mx (ji44) (wrap64 ((wrap64 ((wrap64 ((rd l2 x17_1) + t481)) - 2)) - 1))) = j_ := ⟨_, rfl⟩
             replace H : (dag_Least.l0 kj36 l2 ji45 l0 (l0.length : Int) (wrap64 (x17_1 + 1)) a1_0 a1_1 a1_2 a1_3 a1_4 a1_5) = some r := by first | (rw [hji45] at H; exact H) | (simp only [hji45] at H ⊢; exact H)
             (try rw [hji45] at A43)
             have hji45_ : (if (ji44) < (wrap64 ((wrap64 ((wrap64 ((rd l2 x17_1) + t481)) - 2)) - 1)) then (wrap64 ((wrap64 ((wrap64 ((rd l2 x17_1) + t481)) - 2)) - 1)) else (ji44)) = ji45 := hji45
             have H' := As_.mk H
             clear H
             have hnb46 := NB473_475.out
             have hnc46 := NB475_473.out
             obtain ⟨hcz47_0, hcz47_1, hcz47_2, hcz47_3, hcz47_4, hcz47_5⟩ := cl6_ BK473.out
             obtain ⟨hfz47_0, hfz47_1, hfz47_2, hfz47_3, hfz47_4, hfz47_5⟩ := fz6_ BK473.out
             obtain ⟨hcz48_0, hcz48_1, hcz48_2, hcz48_3, hcz48_4, hcz48_5⟩ := cl6_ BK475.out
             obtain ⟨hfz48_0, hfz48_1, hfz48_2, hfz48_3, hfz48_4, hfz48_5⟩ := fz6_ BK475.out
             go_wp2_with (first | ((with_reducible refine gC_ (f := 92) rfl ?_); refine gL_ (some 62) Try.func92 #[.int .i64 ((q24 l0 x17_1).f0)] rfl ?_; (with_reducible refine (isa_Late.calls kj36 ((q24 l0 x17_1).f0) t481 _ A43.out).mono ?_); rintro e w' ⟨rfl, ⟨nd, rfl⟩⟩; refine ⟨_, rfl, ?_⟩))
             go_roundg kj36
             case measure => have := HK1.out; have := HJ13.out; have := HJ24.out; have := HJ36.out; omega
             case rel => exact ⟨(ji45), (wrap64 (x17_1 + 1)), (by first | rfl | (simp; done) | (simp only [← hji45] <;> (first | rfl | simp)) | (simp [*]; done) | (congr 1; rw [Bool.eq_iff_iff]; simp; done)), eQ_, H', ⟨by have := HK1.out; have := HJ13.out; have := HJ24.out; have := HJ36.out; omega⟩, ⟨rB_ BK473⟩, ⟨by repeat (first | (with_reducible first | exact HB.out | apply bA_ | apply bN_ | apply b1_ | refine bS_ ?_ GE473.out | refine bS_ ?_ GE475.out) | exact HB.out)⟩⟩
      rw [if_neg c12] at H
      exact absurd H (by simp)
     rw [if_neg c11] at H
     exact absurd H (by simp)
    rw [if_neg c10] at H
    exact absurd H (by simp)
   rw [if_neg c9] at H
   have c9b0 := decide_eq_false c9
   clear c9
   obtain rfl := oI_ H
   go_wp2
   go_ret
   exact ⟨by first | rfl | (simp [eN_, eS_] <;> rfl) | (simp [*, eN_, eS_] <;> rfl), bs_ HB GE473⟩
end Go.Proofs.Ytibfkkjkahpobaa.PDag
end
section
namespace Go.Proofs.Ytibfkkjkahpobaa.PDag
attribute [local go_sem] max2_int min2_int max_two min_two max_three min_three max_four min_four   -- for this text's walks alone
mutual
def r13_Last.l0 : Nat → List (S24) → List Int → Int → Bool → Int → Int → Int → Int → Int → Int → ByteArray → Option (Int)
  | 0, _, _, _, _, _, _, _, _, _, _, _ => none
  | k + 1, x0, x2, x7, x8, x9, x489a, x489b, x489c, x489d, x489e, x489f => if x9 < (x0.length : Int) then (if 0 ≤ x9 then (if x9 < (x2.length : Int) then ((r3_Latency.f k ((q24 x0 x9).f0)).bind fun t491 => ((r3_Writes.f ((q24 x0 x9).f0) ((q24 x0 x9).f1) ((q24 x0 x9).f2) ((q24 x0 x9).f3) ((q24 x0 x9).f4) ((q24 x0 x9).f5)).bind fun t493 => (if t493 ≥ 0 then ((r3_Reads.f k x489a x489b x489c x489d x489e x489f).bind fun t494 => ((r0_In.f k t494 t493).bind fun t497 => (r13_Last.j1 k x0 x2 x7 x8 x9 (rd x2 x9) t491 (decide (t497 ≥ 0)) x489a x489b x489c x489d x489e x489f))) else (r13_Last.j1 k x0 x2 x7 x8 x9 (rd x2 x9) t491 false x489a x489b x489c x489d x489e x489f)))) else (none)) else (none)) else (some x7)
def r13_Last.j1 : Nat → List (S24) → List Int → Int → Bool → Int → Int → Int → Bool → Int → Int → Int → Int → Int → ByteArray → Option (Int)
  | 0, _, _, _, _, _, _, _, _, _, _, _, _, _, _ => none
  | k + 1, x0, x2, x7, x8, x9, x10, x11, x48, x489a, x489b, x489c, x489d, x489e, x489f => if x48 = true then (r13_Last.j2 k x0 x2 (mx x7 (wrap64 (x10 + x11))) x8 x9 x10 x11 x489a x489b x489c x489d x489e x489f) else (r13_Last.j2 k x0 x2 x7 x8 x9 x10 x11 x489a x489b x489c x489d x489e x489f)
def r13_Last.j2 : Nat → List (S24) → List Int → Int → Bool → Int → Int → Int → Int → Int → Int → Int → Int → ByteArray → Option (Int)
  | 0, _, _, _, _, _, _, _, _, _, _, _, _, _ => none
  | k + 1, x0, x2, x7, x8, x9, x10, x11, x489a, x489b, x489c, x489d, x489e, x489f => if x8 = true then (r13_Last.j3 k x0 x2 x7 x8 x9 x10 x11 true x489a x489b x489c x489d x489e x489f) else ((r3_Effect.f x489a).bind fun t498 => (if t498 = true then (if 0 ≤ x9 then (if x9 < (x0.length : Int) then ((r3_Effect.f ((q24 x0 x9).f0)).bind fun t500 => (r13_Last.j3 k x0 x2 x7 x8 x9 x10 x11 t500 x489a x489b x489c x489d x489e x489f)) else (none)) else (none)) else (r13_Last.j3 k x0 x2 x7 x8 x9 x10 x11 false x489a x489b x489c x489d x489e x489f)))
def r13_Last.j3 : Nat → List (S24) → List Int → Int → Bool → Int → Int → Int → Bool → Int → Int → Int → Int → Int → ByteArray → Option (Int)
  | 0, _, _, _, _, _, _, _, _, _, _, _, _, _, _ => none
  | k + 1, x0, x2, x7, x8, x9, x10, x11, x67, x489a, x489b, x489c, x489d, x489e, x489f => if x67 = true then (r13_Last.j4 k x0 x2 (mx x7 (wrap64 (x10 + 1))) x8 x9 x10 x11 x489a x489b x489c x489d x489e x489f) else (r13_Last.j4 k x0 x2 x7 x8 x9 x10 x11 x489a x489b x489c x489d x489e x489f)
def r13_Last.j4 : Nat → List (S24) → List Int → Int → Bool → Int → Int → Int → Int → Int → Int → Int → Int → ByteArray → Option (Int)
  | 0, _, _, _, _, _, _, _, _, _, _, _, _, _ => none
  | k + 1, x0, x2, x7, x8, x9, x10, x11, x489a, x489b, x489c, x489d, x489e, x489f => if x8 = true then (r13_Last.l0 k x0 x2 x7 x8 (wrap64 (x9 + 1)) x489a x489b x489c x489d x489e x489f) else (r13_Last.l0 k x0 x2 (mx (mx x7 (wrap64 (x10 - 2))) (wrap64 ((wrap64 ((wrap64 (x10 + x11)) - 2)) - 1))) x8 (wrap64 (x9 + 1)) x489a x489b x489c x489d x489e x489f)
end
def r13_Last.f (k : Nat) (l0 : List (S24)) (a1_0 : Int) (a1_1 : Int) (a1_2 : Int) (a1_3 : Int) (a1_4 : Int) (a1_5 : ByteArray) (l2 : List Int) : Option (Int) := if a1_0 = 0 then (some 0) else (r13_Last.l0 k l0 l2 0 (a1_0 == 33) 0 a1_0 a1_1 a1_2 a1_3 a1_4 a1_5)
set_option maxHeartbeats 8000000 in
set_option maxRecDepth 100000 in
theorem r13_Last.calls (k : Nat) (A0 : Option Addr) (c0 : Nat) (l0 : List (S24)) (a1_0 : Int) (a1_1 : Int) (a1_2 : Int) (a1_3 : Int) (a1_4 : Int) (a1_5 : ByteArray) (A2 : Option Addr) (c2 : Nat) (l2 : List Int) (r : Int) (w : World) (hr0 : Kd.C k24 w A0 l0.length l0) (hc0 : l0.length ≤ c0) (hr2 : Kd.C (Kd.int .i64) w A2 l2.length l2) (hc2 : l2.length ≤ c2) (h : r13_Last.f k l0 a1_0 a1_1 a1_2 a1_3 a1_4 a1_5 l2 = some r) :
    Calls Try.prog 41 #[.slice A0 l0.length c0, .agg #[.int .i64 a1_0, .int .i64 a1_1, .int .i64 a1_2, .int .i64 a1_3, .int .i64 a1_4, .string a1_5], .slice A2 l2.length c2] w fun e w' => e = .returned (.int .i64 r) ∧ Below w.heap.size w w' := by
 have hu24 := Try.underlying24
 have HR0 := As_.mk hr0
 have HC0 := As_.mk hc0
 clear hr0 hc0
 have HR2 := As_.mk hr2
 have HC2 := As_.mk hc2
 clear hr2 hc2
 have HB := As_.mk (Below.refl w.heap.size w)
 have H : (if a1_0 = 0 then (some 0) else (r13_Last.l0 k l0 l2 0 (a1_0 == 33) 0 a1_0 a1_1 a1_2 a1_3 a1_4 a1_5)) = some r := h
 clear h
 by_cases c4 : a1_0 = 0
 ·rw [if_pos c4] at H
  have c4b0 := beq_iff_eq.mpr c4
  have c4b1 := bF_ c4
  clear c4
  obtain rfl := oI_ H
  go_enter Try.func41, Try.ntmps41
  go_wp2_with (first | ((with_reducible refine gate_dst (N := 4) rfl ?_); refine bX_ (N := 4) (cs := #[.int .i64 a1_0, .int .i64 a1_1, .int .i64 a1_2, .int .i64 a1_3, .int .i64 a1_4, .string a1_5]) (t := 24) ?_; intro gb488 hg w5 hbox hb; replace BK488 := As_.mk (hbox); replace GW488 := As_.mk ((by rw [hg]; exact (bY_ (bl_ HB)) : w.heap.size ≤ gb488)); replace GE488 := As_.mk ((by rw [hg]; exact (bY_ (bl_ HB)) : w.heap.size ≤ gb488)); replace HB := As_.mk (bT_ (bl_ HB) hb); clear hb hbox hg; obtain ⟨hcz6_0, hcz6_1, hcz6_2, hcz6_3, hcz6_4, hcz6_5⟩ := cl6_ BK488.out; obtain ⟨hfz6_0, hfz6_1, hfz6_2, hfz6_3, hfz6_4, hfz6_5⟩ := fz6_ BK488.out))
  repeat (go_quiet (first | ((with_reducible refine gate_dst (N := 4) rfl ?_); refine bX_ (N := 4) (cs := #[.int .i64 a1_0, .int .i64 a1_1, .int .i64 a1_2, .int .i64 a1_3, .int .i64 a1_4, .string a1_5]) (t := 24) ?_; intro gb488 hg w5 hbox hb; replace BK488 := As_.mk (hbox); replace GW488 := As_.mk ((by rw [hg]; exact (bY_ (bl_ HB)) : w.heap.size ≤ gb488)); replace GE488 := As_.mk ((by rw [hg]; exact (bY_ (bl_ HB)) : w.heap.size ≤ gb488)); replace HB := As_.mk (bT_ (bl_ HB) hb); clear hb hbox hg; obtain ⟨hcz6_0, hcz6_1, hcz6_2, hcz6_3, hcz6_4, hcz6_5⟩ := cl6_ BK488.out; obtain ⟨hfz6_0, hfz6_1, hfz6_2, hfz6_3, hfz6_4, hfz6_5⟩ := fz6_ BK488.out)); try go_wp2_with (first | ((with_reducible refine gate_dst (N := 4) rfl ?_); refine bX_ (N := 4) (cs := #[.int .i64 a1_0, .int .i64 a1_1, .int .i64 a1_2, .int .i64 a1_3, .int .i64 a1_4, .string a1_5]) (t := 24) ?_; intro gb488 hg w5 hbox hb; replace BK488 := As_.mk (hbox); replace GW488 := As_.mk ((by rw [hg]; exact (bY_ (bl_ HB)) : w.heap.size ≤ gb488)); replace GE488 := As_.mk ((by rw [hg]; exact (bY_ (bl_ HB)) : w.heap.size ≤ gb488)); replace HB := As_.mk (bT_ (bl_ HB) hb); clear hb hbox hg; obtain ⟨hcz6_0, hcz6_1, hcz6_2, hcz6_3, hcz6_4, hcz6_5⟩ := cl6_ BK488.out; obtain ⟨hfz6_0, hfz6_1, hfz6_2, hfz6_3, hfz6_4, hfz6_5⟩ := fz6_ BK488.out)))
  go_ret
  exact ⟨by first | rfl | (simp [eN_, eS_] <;> rfl) | (simp [*, eN_, eS_] <;> rfl), bs_ HB GE488⟩
 rw [if_neg c4] at H
 have c4b0 := bE_ c4
 have c4b1 := bne_iff_ne.mpr c4
 have H' := As_.mk H
 clear H
 go_enter Try.func41, Try.ntmps41
 go_wp2_with (first | ((with_reducible refine gate_dst (N := 4) rfl ?_); refine bX_ (N := 4) (cs := #[.int .i64 a1_0, .int .i64 a1_1, .int .i64 a1_2, .int .i64 a1_3, .int .i64 a1_4, .string a1_5]) (t := 24) ?_; intro gb488 hg w7 hbox hb; replace BK488 := As_.mk (hbox); replace GW488 := As_.mk ((by rw [hg]; exact (bY_ (bl_ HB)) : w.heap.size ≤ gb488)); replace GE488 := As_.mk ((by rw [hg]; exact (bY_ (bl_ HB)) : w.heap.size ≤ gb488)); replace HB := As_.mk (bT_ (bl_ HB) hb); clear hb hbox hg; obtain ⟨hcz8_0, hcz8_1, hcz8_2, hcz8_3, hcz8_4, hcz8_5⟩ := cl6_ BK488.out; obtain ⟨hfz8_0, hfz8_1, hfz8_2, hfz8_3, hfz8_4, hfz8_5⟩ := fz6_ BK488.out))
 repeat (go_quiet (first | ((with_reducible refine gate_dst (N := 4) rfl ?_); refine bX_ (N := 4) (cs := #[.int .i64 a1_0, .int .i64 a1_1, .int .i64 a1_2, .int .i64 a1_3, .int .i64 a1_4, .string a1_5]) (t := 24) ?_; intro gb488 hg w7 hbox hb; replace BK488 := As_.mk (hbox); replace GW488 := As_.mk ((by rw [hg]; exact (bY_ (bl_ HB)) : w.heap.size ≤ gb488)); replace GE488 := As_.mk ((by rw [hg]; exact (bY_ (bl_ HB)) : w.heap.size ≤ gb488)); replace HB := As_.mk (bT_ (bl_ HB) hb); clear hb hbox hg; obtain ⟨hcz8_0, hcz8_1, hcz8_2, hcz8_3, hcz8_4, hcz8_5⟩ := cl6_ BK488.out; obtain ⟨hfz8_0, hfz8_1, hfz8_2, hfz8_3, hfz8_4, hfz8_5⟩ := fz6_ BK488.out)); try go_wp2_with (first | ((with_reducible refine gate_dst (N := 4) rfl ?_); refine bX_ (N := 4) (cs := #[.int .i64 a1_0, .int .i64 a1_1, .int .i64 a1_2, .int .i64 a1_3, .int .i64 a1_4, .string a1_5]) (t := 24) ?_; intro gb488 hg w7 hbox hb; replace BK488 := As_.mk (hbox); replace GW488 := As_.mk ((by rw [hg]; exact (bY_ (bl_ HB)) : w.heap.size ≤ gb488)); replace GE488 := As_.mk ((by rw [hg]; exact (bY_ (bl_ HB)) : w.heap.size ≤ gb488)); replace HB := As_.mk (bT_ (bl_ HB) hb); clear hb hbox hg; obtain ⟨hcz8_0, hcz8_1, hcz8_2, hcz8_3, hcz8_4, hcz8_5⟩ := cl6_ BK488.out; obtain ⟨hfz8_0, hfz8_1, hfz8_2, hfz8_3, hfz8_4, hfz8_5⟩ := fz6_ BK488.out)))
 go_loopg [7, 9] k (fun kq v7 v9 w' => ∃ (x7_1 : Int) (x9_1 : Int), v7 = .int .i64 x7_1 ∧ v9 = .int .i64 x9_1 ∧ As_ (r13_Last.l0 kq l0 l2 x7_1 (a1_0 == 33) x9_1 a1_0 a1_1 a1_2 a1_3 a1_4 a1_5 = some r) ∧ As_ (kq ≤ k) ∧ As_ (w'.heap[gb488]? = some (.cells #[.int .i64 a1_0, .int .i64 a1_1, .int .i64 a1_2, .int .i64 a1_3, .int .i64 a1_4, .string a1_5] 24 (0, 0))) ∧ As_ (Below w.heap.size w w'))
 case atStart => exact ⟨(0), (0), eQ_, eQ_, H', ⟨Nat.le_refl _⟩, ⟨rB_ BK488⟩, ⟨bs_ HB GE488⟩⟩
 case round =>
  clear H'
  obtain ⟨x7_1, x9_1, rfl, rfl, HA, HK1, BK488, HB⟩ := hrel
  cases gk with
  | zero => exact absurd HA.out (by simp [r13_Last.l0])
  | succ k1 =>
   have H := HA.out
   clear HA
   simp only [r13_Last.l0] at H
   by_cases c9 : x9_1 < (l0.length : Int)
   ·rw [if_pos c9] at H
    have c9b0 := decide_eq_true c9
    clear c9
    by_cases c10 : 0 ≤ x9_1
    ·rw [if_pos c10] at H
     have c10b0 := decide_eq_true c10
     clear c10
     by_cases c11 : x9_1 < (l2.length : Int)
     ·rw [if_pos c11] at H
      have c11b0 := decide_eq_true c11
      clear c11
      replace H := oB_ H
      obtain ⟨t491, A120, H⟩ := H
      have A12 := As_.mk A120
      clear A120
      replace H := oB_ H
      obtain ⟨t493, A130, H⟩ := H
      have A13 := As_.mk A130
      clear A130
      have HC14 := As_.mk H
      clear H
      have p489 : 0 ≤ (x9_1 : Int) := oD_
      have q489 : x9_1 < (l2.length : Int) := oD_
      obtain ⟨ad489, e489, hx489_0⟩ := Kd.at_int HR2.out x9_1 p489 q489
      cases e489
      replace hx489_0 := hC_ HB hx489_0
      replace p489 := eq_true p489
      replace q489 := eq_true q489
      have p490 : 0 ≤ (x9_1 : Int) := oD_
      have q490 : x9_1 < (l0.length : Int) := oD_
      obtain ⟨ad490, e490, hx490_0, hx490_1, hx490_2, hx490_3, hx490_4, hx490_5⟩ := at_T24 HR0.out x9_1 p490 q490
      cases e490
      replace hx490_0 := hC_ HB hx490_0
      replace hx490_1 := hC_ HB hx490_1
      replace hx490_2 := hC_ HB hx490_2
      replace hx490_3 := hC_ HB hx490_3
      replace hx490_4 := hC_ HB hx490_4
      replace hx490_5 := hC_ HB hx490_5
      replace p490 := eq_true p490
      replace q490 := eq_true q490
      go_upto_region 10 with (first | (go_at_call 27; (with_reducible refine (r3_Latency.calls k1 ((q24 l0 x9_1).f0) t491 _ A12.out).mono ?_); rintro e w' ⟨rfl, ⟨nd, rfl⟩⟩; (try first | exact ⟨rfl, _, dN_⟩ | exact ⟨rfl, _, dT_⟩); have p492 : 0 ≤ (x9_1 : Int) := oD_; have q492 : x9_1 < (l0.length : Int) := oD_; obtain ⟨ad492, e492, hx492_0, hx492_1, hx492_2, hx492_3, hx492_4, hx492_5⟩ := at_T24 HR0.out x9_1 p492 q492; obtain rfl : ad490 = ad492 := (by injection e492); replace hx492_0 := hC_ HB hx492_0; replace hx492_1 := hC_ HB hx492_1; replace hx492_2 := hC_ HB hx492_2; replace hx492_3 := hC_ HB hx492_3; replace hx492_4 := hC_ HB hx492_4; replace hx492_5 := hC_ HB hx492_5; replace p492 := eq_true p492; replace q492 := eq_true q492) | (go_at_call 71; (with_reducible refine (r3_Writes.calls ((q24 l0 x9_1).f0) ((q24 l0 x9_1).f1) ((q24 l0 x9_1).f2) ((q24 l0 x9_1).f3) ((q24 l0 x9_1).f4) ((q24 l0 x9_1).f5) t493 _ A13.out).mono ?_); rintro e w15 ⟨rfl, hb⟩; replace BK488 := As_.mk (kB_ (rB_ BK488) hb); replace HB := As_.mk (bT_ (bs_ HB GE488) hb)))
      repeat (go_quiet (first | (go_at_call 27; (with_reducible refine (r3_Latency.calls k1 ((q24 l0 x9_1).f0) t491 _ A12.out).mono ?_); rintro e w' ⟨rfl, ⟨nd, rfl⟩⟩; (try first | exact ⟨rfl, _, dN_⟩ | exact ⟨rfl, _, dT_⟩); have p492 : 0 ≤ (x9_1 : Int) := oD_; have q492 : x9_1 < (l0.length : Int) := oD_; obtain ⟨ad492, e492, hx492_0, hx492_1, hx492_2, hx492_3, hx492_4, hx492_5⟩ := at_T24 HR0.out x9_1 p492 q492; obtain rfl : ad490 = ad492 := (by injection e492); replace hx492_0 := hC_ HB hx492_0; replace hx492_1 := hC_ HB hx492_1; replace hx492_2 := hC_ HB hx492_2; replace hx492_3 := hC_ HB hx492_3; replace hx492_4 := hC_ HB hx492_4; replace hx492_5 := hC_ HB hx492_5; replace p492 := eq_true p492; replace q492 := eq_true q492) | (go_at_call 71; (with_reducible refine (r3_Writes.calls ((q24 l0 x9_1).f0) ((q24 l0 x9_1).f1) ((q24 l0 x9_1).f2) ((q24 l0 x9_1).f3) ((q24 l0 x9_1).f4) ((q24 l0 x9_1).f5) t493 _ A13.out).mono ?_); rintro e w15 ⟨rfl, hb⟩; replace BK488 := As_.mk (kB_ (rB_ BK488) hb); replace HB := As_.mk (bT_ (bs_ HB GE488) hb))); go_upto_region 10 with (first | (go_at_call 27; (with_reducible refine (r3_Latency.calls k1 ((q24 l0 x9_1).f0) t491 _ A12.out).mono ?_); rintro e w' ⟨rfl, ⟨nd, rfl⟩⟩; (try first | exact ⟨rfl, _, dN_⟩ | exact ⟨rfl, _, dT_⟩); have p492 : 0 ≤ (x9_1 : Int) := oD_; have q492 : x9_1 < (l0.length : Int) := oD_; obtain ⟨ad492, e492, hx492_0, hx492_1, hx492_2, hx492_3, hx492_4, hx492_5⟩ := at_T24 HR0.out x9_1 p492 q492; obtain rfl : ad490 = ad492 := (by injection e492); replace hx492_0 := hC_ HB hx492_0; replace hx492_1 := hC_ HB hx492_1; replace hx492_2 := hC_ HB hx492_2; replace hx492_3 := hC_ HB hx492_3; replace hx492_4 := hC_ HB hx492_4; replace hx492_5 := hC_ HB hx492_5; replace p492 := eq_true p492; replace q492 := eq_true q492) | (go_at_call 71; (with_reducible refine (r3_Writes.calls ((q24 l0 x9_1).f0) ((q24 l0 x9_1).f1) ((q24 l0 x9_1).f2) ((q24 l0 x9_1).f3) ((q24 l0 x9_1).f4) ((q24 l0 x9_1).f5) t493 _ A13.out).mono ?_); rintro e w15 ⟨rfl, hb⟩; replace BK488 := As_.mk (kB_ (rB_ BK488) hb); replace HB := As_.mk (bT_ (bs_ HB GE488) hb))))
      (try simp only [Act.put, List.setIfInBounds_toArray, List.set_cons_zero, List.set_cons_succ])
      go_cut [48] (fun v48 wc => ∃ (kq : Nat) (x48_13 : Bool), v48 = .bool x48_13 ∧ As_ (r13_Last.j1 kq l0 l2 x7_1 (a1_0 == 33) x9_1 (rd l2 x9_1) t491 x48_13 a1_0 a1_1 a1_2 a1_3 a1_4 a1_5 = some r) ∧ As_ (kq ≤ k1) ∧ As_ (wc.heap[gb488]? = some (.cells #[.int .i64 a1_0, .int .i64 a1_1, .int .i64 a1_2, .int .i64 a1_3, .int .i64 a1_4, .string a1_5] 24 (0, 0))) ∧ As_ (Below w.heap.size w wc))
      case first =>
       have H := HC14.out
       clear HC14
       by_cases c16 : t493 ≥ 0
       ·rw [if_pos c16] at H
        have c16b0 := decide_eq_true c16
        clear c16
        (first | rw [c16b0] | (simp only [i64_w, i32_w]; rw [c16b0]) | skip)
        replace H := oB_ H
        obtain ⟨t494, A170, H⟩ := H
        have A17 := As_.mk A170
        clear A170
        replace H := oB_ H
        obtain ⟨t497, A180, H⟩ := H
        have A18 := As_.mk A180
        clear A180
        have H' := As_.mk H
        clear H
        obtain ⟨hcz19_0, hcz19_1, hcz19_2, hcz19_3, hcz19_4, hcz19_5⟩ := cl6_ BK488.out
        obtain ⟨hfz19_0, hfz19_1, hfz19_2, hfz19_3, hfz19_4, hfz19_5⟩ := fz6_ BK488.out
        go_wp2_with (first | (go_at_call 73; (with_reducible refine (r3_Reads.calls k1 a1_0 a1_1 a1_2 a1_3 a1_4 a1_5 t494 _ A17.out).mono ?_); rintro e w20 ⟨v495, rfl, ho0, hb⟩; replace HO496 := As_.mk (Kd.R_lower ho0 (bY_ (bs_ HB GE488))); replace BK488 := As_.mk (kB_ (rB_ BK488) hb); replace HB := As_.mk (bT_ (bs_ HB GE488) hb); (try clear ho0); obtain ⟨Ao21, co21, eo21⟩ := Kd.R_slice HO496.out; subst eo21) | (go_at_call 72; (with_reducible refine (r0_In.calls k1 _ _ t494 t493 t497 _ ?side1 ?side2 A18.out).mono ?_); (case side1 => exact rC_ (Kd.R_reads' HO496.out).2.2); (case side2 => exact (Kd.R_reads' HO496.out).2.1); rintro e w' ⟨rfl, ⟨nd, rfl⟩⟩; (try first | exact ⟨rfl, _, dN_⟩ | exact ⟨rfl, _, dT_⟩)))
        repeat (go_quiet (first | (go_at_call 73; (with_reducible refine (r3_Reads.calls k1 a1_0 a1_1 a1_2 a1_3 a1_4 a1_5 t494 _ A17.out).mono ?_); rintro e w20 ⟨v495, rfl, ho0, hb⟩; replace HO496 := As_.mk (Kd.R_lower ho0 (bY_ (bs_ HB GE488))); replace BK488 := As_.mk (kB_ (rB_ BK488) hb); replace HB := As_.mk (bT_ (bs_ HB GE488) hb); (try clear ho0); obtain ⟨Ao21, co21, eo21⟩ := Kd.R_slice HO496.out; subst eo21) | (go_at_call 72; (with_reducible refine (r0_In.calls k1 _ _ t494 t493 t497 _ ?side1 ?side2 A18.out).mono ?_); (case side1 => exact rC_ (Kd.R_reads' HO496.out).2.2); (case side2 => exact (Kd.R_reads' HO496.out).2.1); rintro e w' ⟨rfl, ⟨nd, rfl⟩⟩; (try first | exact ⟨rfl, _, dN_⟩ | exact ⟨rfl, _, dT_⟩))); try go_wp2_with (first | (go_at_call 73; (with_reducible refine (r3_Reads.calls k1 a1_0 a1_1 a1_2 a1_3 a1_4 a1_5 t494 _ A17.out).mono ?_); rintro e w20 ⟨v495, rfl, ho0, hb⟩; replace HO496 := As_.mk (Kd.R_lower ho0 (bY_ (bs_ HB GE488))); replace BK488 := As_.mk (kB_ (rB_ BK488) hb); replace HB := As_.mk (bT_ (bs_ HB GE488) hb); (try clear ho0); obtain ⟨Ao21, co21, eo21⟩ := Kd.R_slice HO496.out; subst eo21) | (go_at_call 72; (with_reducible refine (r0_In.calls k1 _ _ t494 t493 t497 _ ?side1 ?side2 A18.out).mono ?_); (case side1 => exact rC_ (Kd.R_reads' HO496.out).2.2); (case side2 => exact (Kd.R_reads' HO496.out).2.1); rintro e w' ⟨rfl, ⟨nd, rfl⟩⟩; (try first | exact ⟨rfl, _, dN_⟩ | exact ⟨rfl, _, dT_⟩))))
        first | go_meet | (refine Met.intro ?_; go_step; (repeat apply Exists.intro); refine ⟨?rel, by rw [c26b0]⟩)
        case rel => exact ⟨_, (decide (t497 ≥ 0)), eQ_, H', ⟨by have := HK1.out; first | omega | exact Nat.le_refl _⟩, ⟨rB_ BK488⟩, ⟨bs_ HB GE488⟩⟩
       rw [if_neg c16] at H
       have c16b0 := decide_eq_false c16
       clear c16
       (first | rw [c16b0] | (simp only [i64_w, i32_w]; rw [c16b0]) | skip)
       have H' := As_.mk H
       clear H
       go_wp2
       repeat (go_quiet (fail); try go_wp2)
       first | go_meet | (refine Met.intro ?_; go_step; (repeat apply Exists.intro); refine ⟨?rel, by rw [c26b0]⟩)
       case rel => exact ⟨_, (false), eQ_, H', ⟨by have := HK1.out; first | omega | exact Nat.le_refl _⟩, ⟨rB_ BK488⟩, ⟨bs_ HB GE488⟩⟩
      case rest =>
       clear HC14
       obtain ⟨kq, x48_13, rfl, HA, HJ13, BK488, HB⟩ := hcut
       cases kq with
       | zero => exact absurd HA.out (by simp [r13_Last.j1])
       | succ kj13 =>
        have H := HA.out
        clear HA
        simp only [r13_Last.j1] at H
        have HC22 := As_.mk H
        clear H
        go_upto_if 48 with (fail)
        repeat (go_quiet (fail); go_upto_if 48 with (fail))
        go_cut [7] (fun v7 wc => ∃ (kq : Nat) (x7_21 : Int), v7 = .int .i64 x7_21 ∧ As_ (r13_Last.j2 kq l0 l2 x7_21 (a1_0 == 33) x9_1 (rd l2 x9_1) t491 a1_0 a1_1 a1_2 a1_3 a1_4 a1_5 = some r) ∧ As_ (kq ≤ kj13) ∧ As_ (wc.heap[gb488]? = some (.cells #[.int .i64 a1_0, .int .i64 a1_1, .int .i64 a1_2, .int .i64 a1_3, .int .i64 a1_4, .string a1_5] 24 (0, 0))) ∧ As_ (Below w.heap.size w wc))
        case first =>
         have H := HC22.out
         clear HC22
         by_cases c23 : x48_13 = true
         ·subst c23
          rw [if_pos rfl] at H
          obtain ⟨ji24, hji24⟩ : ∃ j_ : Int, (mx x7_1 (wrap64 ((rd l2 x9_1) + t491))) = j_ := ⟨_, rfl⟩
          replace H : (r13_Last.j2 kj13 l0 l2 ji24 (a1_0 == 33) x9_1 (rd l2 x9_1) t491 a1_0 a1_1 a1_2 a1_3 a1_4 a1_5) = some r := by first | (rw [hji24] at H; exact H) | (simp only [hji24] at H ⊢; exact H)
          have hji24_ : (if x7_1 < (wrap64 ((rd l2 x9_1) + t491)) then (wrap64 ((rd l2 x9_1) + t491)) else x7_1) = ji24 := hji24
          have H' := As_.mk H
          clear H
          go_wp2
          repeat (go_quiet (fail); try go_wp2)
          first | go_meet | (refine Met.intro ?_; go_step; (repeat apply Exists.intro); refine ⟨?rel, by rw [c26b0]⟩)
          case rel => exact ⟨_, (ji24), (by first | rfl | (simp; done) | (simp only [← hji24] <;> (first | rfl | simp)) | (simp [*]; done) | (congr 1; rw [Bool.eq_iff_iff]; simp; done)), H', ⟨by have := HK1.out; have := HJ13.out; first | omega | exact Nat.le_refl _⟩, ⟨rB_ BK488⟩, ⟨bs_ HB GE488⟩⟩
         replace c23 := eF_ c23
         subst c23
         rw [if_neg Bool.false_ne_true] at H
         have H' := As_.mk H
         clear H
         go_wp2
         repeat (go_quiet (fail); try go_wp2)
         first | go_meet | (refine Met.intro ?_; go_step; (repeat apply Exists.intro); refine ⟨?rel, by rw [c26b0]⟩)
         case rel => exact ⟨_, (x7_1), eQ_, H', ⟨by have := HK1.out; have := HJ13.out; first | omega | exact Nat.le_refl _⟩, ⟨rB_ BK488⟩, ⟨bs_ HB GE488⟩⟩
        case rest =>
         clear HC22
         obtain ⟨kq, x7_21, rfl, HA, HJ21, BK488, HB⟩ := hcut
         cases kq with
         | zero => exact absurd HA.out (by simp [r13_Last.j2])
         | succ kj21 =>
          have H := HA.out
          clear HA
          simp only [r13_Last.j2] at H
          have HC25 := As_.mk H
          clear H
          go_upto_region 12 with (fail)
          repeat (go_quiet (fail); go_upto_region 12 with (fail))
          go_cut [67] (fun v67 wc => ∃ (kq : Nat) (x67_24 : Bool), v67 = .bool x67_24 ∧ As_ (r13_Last.j3 kq l0 l2 x7_21 (a1_0 == 33) x9_1 (rd l2 x9_1) t491 x67_24 a1_0 a1_1 a1_2 a1_3 a1_4 a1_5 = some r) ∧ As_ (kq ≤ kj21) ∧ As_ (wc.heap[gb488]? = some (.cells #[.int .i64 a1_0, .int .i64 a1_1, .int .i64 a1_2, .int .i64 a1_3, .int .i64 a1_4, .string a1_5] 24 (0, 0))) ∧ As_ (Below w.heap.size w wc))
          case first =>
           have H := HC25.out
           clear HC25
           by_cases c26 : (a1_0 == 33) = true
           ·rw [if_pos c26] at H
            have c26b0 : (a1_0 == 33) = true := c26
            (try (have c26b1 : decide (a1_0 = 33) = true := by simpa using c26))
            (try (have c26b2 : (a1_0 == 33) = true := by simpa using c26))
            clear c26
            (first | rw [c26b0] | (simp only [i64_w, i32_w]; rw [c26b0]) | skip)
            have H' := As_.mk H
            clear H
            go_wp2
            repeat (go_quiet (fail); try go_wp2)
            first | go_meet | (refine Met.intro ?_; go_step; (repeat apply Exists.intro); refine ⟨?rel, by rw [c26b0]⟩)
            case rel => exact ⟨_, (true), eQ_, H', ⟨by have := HK1.out; have := HJ13.out; have := HJ21.out; first | omega | exact Nat.le_refl _⟩, ⟨rB_ BK488⟩, ⟨bs_ HB GE488⟩⟩
           rw [if_neg c26] at H
           have c26b0 : (a1_0 == 33) = false := by simpa using c26
           (try (have c26b1 : decide (a1_0 = 33) = false := by simpa using c26))
           (try (have c26b2 : (a1_0 == 33) = false := by simpa using c26))
           (try (have c26b3 : ¬ (a1_0 = 33) := by simpa using c26))
           clear c26
           (first | rw [c26b0] | (simp only [i64_w, i32_w]; rw [c26b0]) | skip)
           replace H := oB_ H
           obtain ⟨t498, A270, H⟩ := H
           have A27 := As_.mk A270
           clear A270
           by_cases c28 : t498 = true
           ·subst c28
            rw [if_pos rfl] at H
            by_cases c29 : 0 ≤ x9_1
            ·rw [if_pos c29] at H
             have c29b0 := decide_eq_true c29
             clear c29
             by_cases c30 : x9_1 < (l0.length : Int)
             ·rw [if_pos c30] at H
              have c30b0 := decide_eq_true c30
              clear c30
              replace H := oB_ H
              obtain ⟨t500, A310, H⟩ := H
              have A31 := As_.mk A310
              clear A310
              have H' := As_.mk H
              clear H
              obtain ⟨hcz32_0, hcz32_1, hcz32_2, hcz32_3, hcz32_4, hcz32_5⟩ := cl6_ BK488.out
              obtain ⟨hfz32_0, hfz32_1, hfz32_2, hfz32_3, hfz32_4, hfz32_5⟩ := fz6_ BK488.out
              go_wp2_with (first | (go_at_call 36; (with_reducible refine (r3_Effect.calls a1_0 true _ A27.out).mono ?_); rintro e w' ⟨rfl, ⟨nd, rfl⟩⟩; (try first | exact ⟨rfl, _, dN_⟩ | exact ⟨rfl, _, dT_⟩); have p499 : 0 ≤ (x9_1 : Int) := oD_; have q499 : x9_1 < (l0.length : Int) := oD_; obtain ⟨ad499, e499, hx499_0, hx499_1, hx499_2, hx499_3, hx499_4, hx499_5⟩ := at_T24 HR0.out x9_1 p499 q499; obtain rfl : ad490 = ad499 := (by injection e499); replace hx499_0 := hC_ HB hx499_0; replace hx499_1 := hC_ HB hx499_1; replace hx499_2 := hC_ HB hx499_2; replace hx499_3 := hC_ HB hx499_3; replace hx499_4 := hC_ HB hx499_4; replace hx499_5 := hC_ HB hx499_5; replace p499 := eq_true p499; replace q499 := eq_true q499) | (go_at_call 36; (with_reducible refine (r3_Effect.calls ((q24 l0 x9_1).f0) t500 _ A31.out).mono ?_); rintro e w' ⟨rfl, ⟨nd, rfl⟩⟩; (try first | exact ⟨rfl, _, dN_⟩ | exact ⟨rfl, _, dT_⟩)))
              repeat (go_quiet (first | (go_at_call 36; (with_reducible refine (r3_Effect.calls a1_0 true _ A27.out).mono ?_); rintro e w' ⟨rfl, ⟨nd, rfl⟩⟩; (try first | exact ⟨rfl, _, dN_⟩ | exact ⟨rfl, _, dT_⟩); have p499 : 0 ≤ (x9_1 : Int) := oD_; have q499 : x9_1 < (l0.length : Int) := oD_; obtain ⟨ad499, e499, hx499_0, hx499_1, hx499_2, hx499_3, hx499_4, hx499_5⟩ := at_T24 HR0.out x9_1 p499 q499; obtain rfl : ad490 = ad499 := (by injection e499); replace hx499_0 := hC_ HB hx499_0; replace hx499_1 := hC_ HB hx499_1; replace hx499_2 := hC_ HB hx499_2; replace hx499_3 := hC_ HB hx499_3; replace hx499_4 := hC_ HB hx499_4; replace hx499_5 := hC_ HB hx499_5; replace p499 := eq_true p499; replace q499 := eq_true q499) | (go_at_call 36; (with_reducible refine (r3_Effect.calls ((q24 l0 x9_1).f0) t500 _ A31.out).mono ?_); rintro e w' ⟨rfl, ⟨nd, rfl⟩⟩; (try first | exact ⟨rfl, _, dN_⟩ | exact ⟨rfl, _, dT_⟩))); try go_wp2_with (first | (go_at_call 36; (with_reducible refine (r3_Effect.calls a1_0 true _ A27.out).mono ?_); rintro e w' ⟨rfl, ⟨nd, rfl⟩⟩; (try first | exact ⟨rfl, _, dN_⟩ | exact ⟨rfl, _, dT_⟩); have p499 : 0 ≤ (x9_1 : Int) := oD_; have q499 : x9_1 < (l0.length : Int) := oD_; obtain ⟨ad499, e499, hx499_0, hx499_1, hx499_2, hx499_3, hx499_4, hx499_5⟩ := at_T24 HR0.out x9_1 p499 q499; obtain rfl : ad490 = ad499 := (by injection e499); replace hx499_0 := hC_ HB hx499_0; replace hx499_1 := hC_ HB hx499_1; replace hx499_2 := hC_ HB hx499_2; replace hx499_3 := hC_ HB hx499_3; replace hx499_4 := hC_ HB hx499_4; replace hx499_5 := hC_ HB hx499_5; replace p499 := eq_true p499; replace q499 := eq_true q499) | (go_at_call 36; (with_reducible refine (r3_Effect.calls ((q24 l0 x9_1).f0) t500 _ A31.out).mono ?_); rintro e w' ⟨rfl, ⟨nd, rfl⟩⟩; (try first | exact ⟨rfl, _, dN_⟩ | exact ⟨rfl, _, dT_⟩))))
              first | go_meet | (refine Met.intro ?_; go_step; (repeat apply Exists.intro); refine ⟨?rel, by rw [c26b0]⟩)
              case rel => exact ⟨_, (t500), eQ_, H', ⟨by have := HK1.out; have := HJ13.out; have := HJ21.out; first | omega | exact Nat.le_refl _⟩, ⟨rB_ BK488⟩, ⟨bs_ HB GE488⟩⟩
             rw [if_neg c30] at H
             exact absurd H (by simp)
            rw [if_neg c29] at H
            exact absurd H (by simp)
           replace c28 := eF_ c28
           subst c28
           rw [if_neg Bool.false_ne_true] at H
           have H' := As_.mk H
           clear H
           obtain ⟨hcz33_0, hcz33_1, hcz33_2, hcz33_3, hcz33_4, hcz33_5⟩ := cl6_ BK488.out
           obtain ⟨hfz33_0, hfz33_1, hfz33_2, hfz33_3, hfz33_4, hfz33_5⟩ := fz6_ BK488.out
           go_wp2_with (first | (go_at_call 36; (with_reducible refine (r3_Effect.calls a1_0 false _ A27.out).mono ?_); rintro e w' ⟨rfl, ⟨nd, rfl⟩⟩; (try first | exact ⟨rfl, _, dN_⟩ | exact ⟨rfl, _, dT_⟩)))
           repeat (go_quiet (first | (go_at_call 36; (with_reducible refine (r3_Effect.calls a1_0 false _ A27.out).mono ?_); rintro e w' ⟨rfl, ⟨nd, rfl⟩⟩; (try first | exact ⟨rfl, _, dN_⟩ | exact ⟨rfl, _, dT_⟩))); try go_wp2_with (first | (go_at_call 36; (with_reducible refine (r3_Effect.calls a1_0 false _ A27.out).mono ?_); rintro e w' ⟨rfl, ⟨nd, rfl⟩⟩; (try first | exact ⟨rfl, _, dN_⟩ | exact ⟨rfl, _, dT_⟩))))
           first | go_meet | (refine Met.intro ?_; go_step; (repeat apply Exists.intro); refine ⟨?rel, by rw [c26b0]⟩)
           case rel => exact ⟨_, (false), eQ_, H', ⟨by have := HK1.out; have := HJ13.out; have := HJ21.out; first | omega | exact Nat.le_refl _⟩, ⟨rB_ BK488⟩, ⟨bs_ HB GE488⟩⟩
          case rest =>
           clear HC25
           obtain ⟨kq, x67_24, rfl, HA, HJ24, BK488, HB⟩ := hcut
           cases kq with
           | zero => exact absurd HA.out (by simp [r13_Last.j3])
           | succ kj24 =>
            have H := HA.out
            clear HA
            simp only [r13_Last.j3] at H
            have HC34 := As_.mk H
            clear H
            go_upto_if 67 with (fail)
            repeat (go_quiet (fail); go_upto_if 67 with (fail))
            go_cut [7] (fun v7 wc => ∃ (kq : Nat) (x7_33 : Int), v7 = .int .i64 x7_33 ∧ As_ (r13_Last.j4 kq l0 l2 x7_33 (a1_0 == 33) x9_1 (rd l2 x9_1) t491 a1_0 a1_1 a1_2 a1_3 a1_4 a1_5 = some r) ∧ As_ (kq ≤ kj24) ∧ As_ (wc.heap[gb488]? = some (.cells #[.int .i64 a1_0, .int .i64 a1_1, .int .i64 a1_2, .int .i64 a1_3, .int .i64 a1_4, .string a1_5] 24 (0, 0))) ∧ As_ (Below w.heap.size w wc))
            case first =>
             have H := HC34.out
             clear HC34
             by_cases c35 : x67_24 = true
             ·subst c35
              rw [if_pos rfl] at H
              obtain ⟨ji36, hji36⟩ : ∃ j_ : Int, (mx x7_21 (wrap64 ((rd l2 x9_1) + 1))) = j_ := ⟨_, rfl⟩
              replace H : (r13_Last.j4 kj24 l0 l2 ji36 (a1_0 == 33) x9_1 (rd l2 x9_1) t491 a1_0 a1_1 a1_2 a1_3 a1_4 a1_5) = some r := by first | (rw [hji36] at H; exact H) | (simp only [hji36] at H ⊢; exact H)
              have hji36_ : (if x7_21 < (wrap64 ((rd l2 x9_1) + 1)) then (wrap64 ((rd l2 x9_1) + 1)) else x7_21) = ji36 := hji36
              have H' := As_.mk H
              clear H
              go_wp2
              repeat (go_quiet (fail); try go_wp2)
              first | go_meet | (refine Met.intro ?_; go_step; (repeat apply Exists.intro); refine ⟨?rel, by rw [c26b0]⟩)
              case rel => exact ⟨_, (ji36), (by first | rfl | (simp; done) | (simp only [← hji36] <;> (first | rfl | simp)) | (simp [*]; done) | (congr 1; rw [Bool.eq_iff_iff]; simp; done)), H', ⟨by have := HK1.out; have := HJ13.out; have := HJ21.out; have := HJ24.out; first | omega | exact Nat.le_refl _⟩, ⟨rB_ BK488⟩, ⟨bs_ HB GE488⟩⟩
             replace c35 := eF_ c35
             subst c35
             rw [if_neg Bool.false_ne_true] at H
             have H' := As_.mk H
             clear H
             go_wp2
             repeat (go_quiet (fail); try go_wp2)
             first | go_meet | (refine Met.intro ?_; go_step; (repeat apply Exists.intro); refine ⟨?rel, by rw [c26b0]⟩)
             case rel => exact ⟨_, (x7_21), eQ_, H', ⟨by have := HK1.out; have := HJ13.out; have := HJ21.out; have := HJ24.out; first | omega | exact Nat.le_refl _⟩, ⟨rB_ BK488⟩, ⟨bs_ HB GE488⟩⟩
            case rest =>
             clear HC34
             obtain ⟨kq, x7_33, rfl, HA, HJ33, BK488, HB⟩ := hcut
             cases kq with
             | zero => exact absurd HA.out (by simp [r13_Last.j4])
             | succ kj33 =>
              have H := HA.out
              clear HA
              simp only [r13_Last.j4] at H
              by_cases c37 : (a1_0 == 33) = true
              ·rw [if_pos c37] at H
               have c37b0 : (a1_0 == 33) = true := c37
               (try (have c37b1 : decide (a1_0 = 33) = true := by simpa using c37))
               (try (have c37b2 : (a1_0 == 33) = true := by simpa using c37))
               clear c37
               have H' := As_.mk H
               clear H
               go_wp2
               repeat (go_quiet (fail); try go_wp2)
               go_roundg kj33
               case measure => have := HK1.out; have := HJ13.out; have := HJ21.out; have := HJ24.out; have := HJ33.out; omega
               case rel => exact ⟨(x7_33), (wrap64 (x9_1 + 1)), eQ_, eQ_, H', ⟨by have := HK1.out; have := HJ13.out; have := HJ21.out; have := HJ24.out; have := HJ33.out; omega⟩, ⟨rB_ BK488⟩, ⟨bs_ HB GE488⟩⟩
              rw [if_neg c37] at H
              have c37b0 : (a1_0 == 33) = false := by simpa using c37
              (try (have c37b1 : decide (a1_0 = 33) = false := by simpa using c37))
              (try (have c37b2 : (a1_0 == 33) = false := by simpa using c37))
              (try (have c37b3 : ¬ (a1_0 = 33) := by simpa using c37))
              clear c37
              obtain ⟨ji38, hji38⟩ : ∃ j_ : Int, (mx x7_33 (wrap64 ((rd l2 x9_1) - 2))) = j_ := ⟨_, rfl⟩
              replace H : (r13_Last.l0 kj33 l0 l2 (mx (ji38) (wrap64 ((wrap64 ((wrap64 ((rd l2 x9_1) + t491)) - 2)) - 1))) (a1_0 == 33) (wrap64 (x9_1 + 1)) a1_0 a1_1 a1_2 a1_3 a1_4 a1_5) = some r := by first | (rw [hji38] at H; exact H) | (simp only [hji38] at H ⊢; exact H)
              have hji38_ : (if x7_33 < (wrap64 ((rd l2 x9_1) - 2)) then (wrap64 ((rd l2 x9_1) - 2)) else x7_33) = ji38 := hji38
              obtain ⟨ji39, hji39⟩ : ∃ j_ : Int, (mx (ji38) (wrap64 ((wrap64 ((wrap64 ((rd l2 x9_1) + t491)) - 2)) - 1))) = j_ := ⟨_, rfl⟩
              replace H : (r13_Last.l0 kj33 l0 l2 ji39 (a1_0 == 33) (wrap64 (x9_1 + 1)) a1_0 a1_1 a1_2 a1_3 a1_4 a1_5) = some r := by first | (rw [hji39] at H; exact H) | (simp only [hji39] at H ⊢; exact H)
              have hji39_ : (if (ji38) < (wrap64 ((wrap64 ((wrap64 ((rd l2 x9_1) + t491)) - 2)) - 1)) then (wrap64 ((wrap64 ((wrap64 ((rd l2 x9_1) + t491)) - 2)) - 1)) else (ji38)) = ji39 := hji39
              have H' := As_.mk H
              clear H
              go_wp2
              repeat (go_quiet (fail); try go_wp2)
              go_roundg kj33
              case measure => have := HK1.out; have := HJ13.out; have := HJ21.out; have := HJ24.out; have := HJ33.out; omega
              case rel => exact ⟨(ji39), (wrap64 (x9_1 + 1)), (by first | rfl | (simp; done) | (simp only [← hji39] <;> (first | rfl | simp)) | (simp [*]; done) | (congr 1; rw [Bool.eq_iff_iff]; simp; done)), eQ_, H', ⟨by have := HK1.out; have := HJ13.out; have := HJ21.out; have := HJ24.out; have := HJ33.out; omega⟩, ⟨rB_ BK488⟩, ⟨bs_ HB GE488⟩⟩
     rw [if_neg c11] at H
     exact absurd H (by simp)
    rw [if_neg c10] at H
    exact absurd H (by simp)
   rw [if_neg c9] at H
   have c9b0 := decide_eq_false c9
   clear c9
   obtain rfl := oI_ H
   go_wp2
   repeat (go_quiet (fail); try go_wp2)
   go_ret
   exact ⟨by first | rfl | (simp [eN_, eS_] <;> rfl) | (simp [*, eN_, eS_] <;> rfl), bs_ HB GE488⟩
end Go.Proofs.Ytibfkkjkahpobaa.PDag
end
